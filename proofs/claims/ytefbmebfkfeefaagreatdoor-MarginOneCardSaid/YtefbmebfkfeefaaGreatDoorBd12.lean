/- The base of the proof: contracts of functions, the engine that shows them, and mathematics. -/
import Derived.Test.YtefbmebfkfeefaaGreatDoorBd11
set_option maxRecDepth 100000
set_option linter.unusedVariables false
set_option linter.unusedSimpArgs false
set_option maxHeartbeats 1000000
namespace Go.Proofs.YtefbmebfkfeefaaGreatDoor.AM
open Go.RowKit
def chI (is:List Bool):Int:=if ∀i,i<is.length->ub is i=ub is 0 then 7 else 0
def Shp (M:List (List Rat)) (is:List Bool):Prop:=aqJ M=true/\M.length<=300/\al M<=20/\is.length=M.length
instance (M:List (List Rat)) (is:List Bool):Decidable (Shp M is):=by unfold Shp;infer_instance
def chE (M:List (List Rat)) (is:List Bool):Int:=if Shp M is then (if 24<M.length then 4 else chI is) else 5
def WtP (b:List Rat) (is:List Bool):Prop:=b.length=is.length/\(∀i,i<b.length->0<=cw b i)/\sdS b.length (ub is) true (cw b)=1/\sdS b.length (ub is) false (cw b)=1
instance (b:List Rat) (is:List Bool):Decidable (WtP b is):=by unfold WtP;infer_instance
def GB:Nat:=2000000
structure MgG (M:List (List Rat)) (is:List Bool) (b:List Rat):Prop where
 right:aqJ M=true
 len:is.length=M.length
 n24:M.length<=24
 w3:al M<=3
 sM:∀i,SL 256 (M.getD i [])
 lb:b.length=M.length
 sb:SL GB b
def stQ (M:List (List Rat)) (is:List Bool) (b:List Rat):Rat:=(dW (ptL M is b false) (ptL M is b false)-dW (ptL M is b true) (ptL M is b true))/((2:Int):Rat)
theorem aUn {s:Nat->Bool} {t:Bool} {c:Nat->Rat} {i:Nat} (h:s i=t):sdS i s t c+c i=sdS (i+1) s t c:=by
 show _=sdS i s t c+(if s i=t then c i else 0)
 rw [aV h]
theorem aVg {s:Nat->Bool} {t:Bool} {c:Nat->Rat} {i:Nat} (h:s i≠t):sdS i s t c=sdS (i+1) s t c:=by
 show _=sdS i s t c+(if s i=t then c i else 0)
 rw [aI h,Rat.add_zero]
theorem aUR {x y:Rat}:fS x y<0↔x<y:=by
 unfold fS;by_cases h:x<y
 ·rw [aV h];exact ⟨fun _=>h,fun _=>by omega⟩
 ·rw [aI h];split <;> exact ⟨fun e=>absurd e (by omega),fun e=>absurd e h⟩
theorem aWO {x y:Rat}:0<fS x y↔y<x:=by
 unfold fS;by_cases h:x<y
 ·rw [aV h];exact ⟨fun e=>absurd e (by omega),fun e=>absurd e (by grind)⟩
 ·rw [aI h];by_cases h2:x=y
  ·rw [aV h2];exact ⟨fun e=>absurd e (by omega),fun e=>absurd e (by grind)⟩
  ·rw [aI h2];exact ⟨fun _=>by grind,fun _=>by omega⟩
theorem aQP (M:List (List Rat)) (is:List Bool) (b:List Rat) (t:Bool):(ptL M is b t).length=al M:=mX ..
theorem aVh (M:List (List Rat)) (is:List Bool) (b:List Rat):(wyL M is b).length=al M:=mX ..
theorem aUo {M:List (List Rat)} {is:List Bool} {b:List Rat} {j:Nat} (t:Bool) (hj:j<al M):(ptL M is b t).getD j 0=ptS M is b t M.length j:=fW hj 0
theorem aSg {xs ys:List Rat} {j k:Nat} (hx:SL j xs) (hy:SL k ys) (hl:xs.length<=3) (sE:j+k<=200000010):lM xs ys:=⟨j,k,hx,hy,by have:=gA (j+k+1) hl;unfold BQ;omega⟩
theorem aVi {xs ys:List Rat} {j k:Nat} (hx:SL j xs) (hy:SL k ys) (hl:xs.length<=3) (sE:j+k<=200000010):Sq 700000000 (dW xs ys):=(x4 hx hy).le (by have:=gA (j+k+1) hl;omega)
section
variable {M:List (List Rat)} {is:List Bool} {b:List Rat}
theorem MgG.pt (h:MgG M is b) {m:Nat} (hm:m<=M.length) (t:Bool) (j:Nat):Sq 50000000 (ptS M is b t m j):=by
 have h24:=h.n24;refine (Sq.apV (k:=256+GB) fun i _=>?_).le (by have:=gA (256+GB+1) (show m<=24 by omega);unfold GB at *;omega);split
 ·exact (h.sM i j).mul (h.sb i)
 ·exact Sq.zero _ (by omega)
theorem MgG.sp (h:MgG M is b) (t:Bool):SL 50000000 (ptL M is b t):=SL.mk (fun j _=>h.pt (cM _) t j) (by omega)
theorem MgG.sw (h:MgG M is b):SL 100000001 (wyL M is b):=SL.mk (fun j _=>((h.pt (cM _) true j).sub (h.pt (cM _) false j)).le (by omega)) (by omega)
theorem MgG.lp (h:MgG M is b) (t:Bool):(ptL M is b t).length<=3:=by rw [aQP];exact h.w3
theorem MgG.lw (h:MgG M is b):(wyL M is b).length<=3:=by rw [aVh];exact h.w3
end
noncomputable def LJ0:List az:=[]
theorem aVZ:bd LJ0:=trivial
def a3G:List AV->Option (Option Prop×AV×List Ob)
 | [.k (.list (.list .q)) M,.k (.list .bool) is]=>some (none,.k (.int .i64) (chE M is),[])
 | _=>none
def aTd:az:=⟨21,false,a3G⟩
def aT1 (M:List (List Rat)) (is:List Bool):bk:=⟨nU,fun key_=>match key_ with
 | 7=>some (⟨Nat,fun i=>[(0,.k (.list (.list .q)) M),(1,.k (.list .bool) is),(5,.k (.int .i64) ((al M:Nat):Int)),(35,.k (.list (.list .q)) M),(36,.k (.int .i64) ((M.length:Nat):Int)),(37,.k (.int .i64) ((i:Nat):Int))],
 fun _=>[],fun _ i=>i<=M.length/\∀j,j<i->(M.getD j []).length=al M,fun i=>M.length-i⟩)
 | 15=>some (⟨Nat,fun i=>[(1,.k (.list .bool) is),(49,.k (.list .bool) is),(50,.k (.int .i64) ((is.length:Nat):Int)),(51,.k (.int .i64) ((i:Nat):Int))],
 fun _=>[],fun _ i=>i<=is.length/\∀j,j<i->ub is j=ub is 0,fun i=>is.length-i⟩) | _=>none,nR,nU⟩
def aQQ (M:List (List Rat)) (is:List Bool):Prop:=
 let t1:=(↑(al M):Int);
 M.length<=aB->bif decide ((↑M.length:Int)<(1:Int)) then (5:Int)=chE M is else M.length<=aB->bif decide ((300:Int)<(↑M.length:Int)) then (5:Int) =
 chE M is else is.length<=aB->M.length<=aB->bif !decide ((↑is.length:Int)=(↑M.length:Int)) then (5:Int)=chE M is else ((0:Int)<=(0:Int)/\(0:Int) <
 (↑M.length:Int))/\((al M)<=aB->bif decide (t1<(1:Int)) then (5:Int)=chE M is else bif decide ((20:Int)<t1) then (5:Int)=chE M is else M.length <=
 aB->∃(x0:Nat),(M=M/\is=is/\t1=t1/\M=M/\(↑M.length:Int)=(↑M.length:Int)/\(0:Int)=(↑x0:Int))/\(x0<=M.length/\∀(j:Nat),j<x0->(M.getD
 j []).length=al M)/\∀(x:Nat),(x<=M.length/\∀(j:Nat),j<x->(M.getD j []).length=al M)->bif decide ((↑x:Int)<(↑M.length:Int)) then ((0:Int)
 <= (↑x:Int)/\(↑x:Int)<(↑M.length:Int))/\((M.getD (↑x:Int).toNat []).length<=aB->bif !decide ((↑(M.getD (↑x:Int).toNat []).length:Int)=t1) then (5 :
 Int)=chE M is else ax ((↑x:Int)+(1:Int))/\∃(x':Nat),(M=M/\is=is/\t1=t1/\M=M/\(↑M.length:Int)=(↑M.length:Int)/\(↑x:Int)+(1:Int) =
 (↑x':Int))/\(x'<=M.length/\∀(j:Nat),j<x'->(M.getD j []).length=al M)/\M.length-x'<M.length-x) else M.length<=aB->bif decide ((24:Int) <
 (↑M.length:Int)) then (4:Int)=chE M is else is.length<=aB->∃(x0:Nat),(is=is/\is=is/\(↑is.length:Int)=(↑is.length:Int)/\(0:Int)=(↑x0:Int))
 /\ (x0<=is.length/\∀(j:Nat),j<x0->ub is j=ub is (0:Nat))/\∀(x:Nat),(x<=is.length/\∀(j:Nat),j<x->ub is j=ub is (0:Nat))->bif decide ((↑x :
 Int)<(↑is.length:Int)) then ((0:Int)<=(↑x:Int)/\(↑x:Int)<(↑is.length:Int))/\((0:Int)<=(0:Int)/\(0:Int)<(↑is.length:Int))/\bif !is.getD (↑x :
 Int).toNat false == is.getD (Int.toNat (0:Int)) false then (0:Int)=chE M is else ax ((↑x:Int)+(1:Int))/\∃(x':Nat),(is=is/\is=is/\(↑is.length :
 Int)=(↑is.length:Int)/\(↑x:Int)+(1:Int)=(↑x':Int))/\(x'<=is.length/\∀(j:Nat),j<x'->ub is j=ub is (0:Nat))/\is.length-x'<is.length-x
 else (7:Int)=chE M is)
theorem aTg (M:List (List Rat)) (is:List Bool):aw LJ0 [] (aT1 M is) Tryz.f21 (.k (.int .i64) (chE M is)) [.k (.list (.list .q)) M,.k (.list .bool) is]=aQQ M is:=by kernel_rfl
theorem aTk (M:List (List Rat)) (is:List Bool) (hf:cJ [.k (.list (.list .q)) M,.k (.list .bool) is]):aQQ M is:=by
 have no:¬Shp M is->(5:Int)=chE M is:=fun h=>(aI h).symm;unfold aQQ;dsimp only;refine fun _=>aH (fun h=>no fun hs=>by have:=(ba hs.1).1;omega) fun h1 _=>aH (fun h=>no fun hs=>by have:=hs.2.1;omega) fun h2 _ _=>dP (fun h=>no fun hs=>h (by have:=hs.2.2.2;omega)) fun h3=>⟨⟨by omega,by omega⟩,fun _=>aH (fun h=>no fun hs=>by have:=(ba hs.1).2.1;omega) fun h4=>aH (fun h=>no fun hs=>by have:=hs.2.2.1;omega) fun h5 _=>⟨0,⟨rfl,rfl,rfl,rfl,rfl,rfl⟩,⟨fK _,fun j hj=>absurd hj (gU j)⟩,fun i ⟨hi,gK⟩=>aH (fun h=>?_) fun h _=>?_⟩⟩
 ·have hi':i<M.length:=by omega
  refine ⟨⟨by omega,h⟩,fun _=>dP (fun h6=>no fun hs=>h6 ?_) fun h6=>⟨by unfold ax;omega,i+1,⟨rfl,rfl,rfl,rfl,rfl,rfl⟩,⟨hi',fun j hj=>?_⟩,by omega⟩⟩
  ·show (((M.getD i []).length:Nat):Int)=((al M:Nat):Int)
   rw [(ba hs.1).2.2 i hi']
  ·rcases bX j i with h7 | h7
   ·exact gK j h7
   ·rw [show j=i by omega];have h8:(((M.getD i []).length:Nat):Int)=((al M:Nat):Int):=h6;omega
 ·have hS:Shp M is:=⟨nM (by omega) (by show al M≠0;omega) fun j hj=>gK j (by omega),by omega,by omega,by omega⟩
  have eC:chE M is=if 24<M.length then 4 else chI is:=aV hS
  rw [eC];refine aH (fun h6=>(aV (by omega)).symm) fun h6 _=>?_;rw [aI (by omega)];refine ⟨0,⟨rfl,rfl,rfl,rfl⟩,⟨fK _,fun j hj=>absurd hj (gU j)⟩,fun i ⟨hi,bB⟩=>aH (fun h=>?_) fun h=>?_⟩
  ·have hi':i<is.length:=by omega
   refine ⟨⟨by omega,h⟩,⟨by omega,by omega⟩,?_⟩;change bif !(ub is i == ub is 0) then _ else _
   cases e:(ub is i == ub is 0) with
   | false=>show (0:Int)=chI is;exact (aI fun hf=>by rw [hf i hi',beq_self_eq_true] at e;cases e).symm
   | true=>
    rw [show (!true)=false from rfl,sC];refine ⟨by unfold ax;omega,i+1,⟨rfl,rfl,rfl,rfl⟩,⟨by omega,fun j hj=>?_⟩,by omega⟩;rcases bX j i with h4 | h4
    ·exact bB j h4
    ·rw [show j=i by omega];exact KM e
  ·exact (aV fun j hj=>bB j (by omega)).symm
theorem aTz:aqn (cfg []) aTd:=cf aVZ bp Tryz.func21 fun a _ _ _ hc hg hf=>by change a3G a=_ at hc;unfold a3G at hc;split at hc <;> cases hc;cases aY (aTg _ _) (aTk _ _ hf);exact ⟨rfl,by kernel_rfl,_,by assumption⟩
noncomputable def LJ1:List az:=xK::Cb::xM::Wk::aa5::Ke::Nj::WU::[]
theorem aPi:bd LJ1:=⟨pI,tA,pJ,Qx,V5,z7,J0,Q4,trivial⟩
def a09:List AV->Option (Option Prop×AV×List Ob)
 | [.k (.list .q) b,.k (.list .bool) is]=>some (some (b.length<=24/\SL GB b),.k .bool (decide (WtP b is)),[])
 | _=>none
def aWJ:az:=⟨28,false,a09⟩
def aXw (b:List Rat) (is:List Bool):bk:=⟨fun key_=>match key_ with | 13=>7 | _=>0,fun key_=>match key_ with
 | 5=>some (⟨Nat,fun i=>[(1,.k (.list .bool) is),(5,.pt 5 0 5 0 0),(6,.pt 6 0 5 0 0),(14,.k (.list .q) b),(15,.k (.int .i64) ((b.length:Nat):Int)),(16,.k (.int .i64) ((i:Nat):Int))],
 fun i=>[(5,.box 35 (.k .q (sdS i (ub is) true (cw b)))),(6,.box 35 (.k .q (sdS i (ub is) false (cw b))))],
 fun _ i=>i<=b.length/\b.length=is.length/\∀j,j<i->0<=cw b j,fun i=>b.length-i⟩) | _=>none,nR,nU⟩
def aS2 (b:List Rat) (is:List Bool):Prop:=b.length<=aB->is.length<=aB->bif !decide ((↑b.length:Int)=(↑is.length:Int)) then false=decide (WtP b is) else b.length<=aB->∃(x0:Nat),((is=is/\b =
 b/\(↑b.length:Int)=(↑b.length:Int)/\(0:Int)=(↑x0:Int))/\(0:Rat)=sdS x0 (ub is) true (cw b)/\(0:Rat)=sdS x0 (ub is) false (cw b))/\(x0<=b.length
 /\ b.length=is.length/\∀(j:Nat),j<x0->(0:Rat)<=cw b j)/\∀(x:Nat),let u1:=b.getD (↑x:Int).toNat (0:Rat);(x<=b.length/\b.length=is.length/\∀(j
 : Nat),j<x->(0:Rat)<=cw b j)->bif decide ((↑x:Int)<(↑b.length:Int)) then ((0:Int)<=(↑x:Int)/\(↑x:Int)<(↑b.length:Int))/\Sq BQ u1/\bif decide
 (u1.num.sign<(0:Int)) then false=decide (WtP b is) else ((0:Int)<=(↑x:Int)/\(↑x:Int)<(↑is.length:Int))/\bif is.getD (↑x:Int).toNat false then (Sq BQ
 (sdS x (ub is) true (cw b))/\Sq BQ u1)/\ax ((↑x:Int)+(1:Int))/\∃(x':Nat),((is=is/\b=b/\(↑b.length:Int)=(↑b.length:Int)/\(↑x:Int)+(1:Int)
 = (↑x':Int))/\sdS x (ub is) true (cw b)+b.getD (↑x:Int).toNat (0:Rat)=sdS x' (ub is) true (cw b)/\sdS x (ub is) false (cw b)=sdS x' (ub is) false (cw b)) /\
 (x'<=b.length/\b.length=is.length/\∀(j:Nat),j<x'->(0:Rat)<=cw b j)/\b.length-x'<b.length-x else (Sq BQ (sdS x (ub is) false (cw b))/\Sq BQ u1) /\
 ax ((↑x:Int)+(1:Int))/\∃(x':Nat),((is=is/\b=b/\(↑b.length:Int)=(↑b.length:Int)/\(↑x:Int)+(1:Int)=(↑x':Int))/\sdS x (ub is) true (cw
 b)=sdS x' (ub is) true (cw b)/\sdS x (ub is) false (cw b)+b.getD (↑x:Int).toNat (0:Rat)=sdS x' (ub is) false (cw b))/\(x'<=b.length/\b.length=is.length /\
 ∀(j:Nat),j<x'->(0:Rat)<=cw b j)/\b.length-x'<b.length-x else ax (1:Int)/\(Sq BQ (sdS x (ub is) true (cw b))/\Sq BQ (↑(1:Int):Rat))/\bif decide
 (fS (sdS x (ub is) true (cw b)) (↑(1:Int):Rat)=(0:Int)) then ax (1:Int)/\(Sq BQ (sdS x (ub is) false (cw b))/\Sq BQ (↑(1:Int):Rat))/\decide (fS
 (sdS x (ub is) false (cw b)) (↑(1:Int):Rat)=(0:Int))=decide (WtP b is) else false=decide (WtP b is)
theorem aWY (b:List Rat) (is:List Bool):aw LJ1 [] (aXw b is) Tryz.f28 (.k .bool (decide (WtP b is))) [.k (.list .q) b,.k (.list .bool) is]=aS2 b is:=by kernel_rfl
theorem aWZ (b:List Rat) (is:List Bool) (hg:b.length<=24/\SL GB b) (hf:cJ [.k (.list .q) b,.k (.list .bool) is]):aS2 b is:=by
 obtain ⟨h24,hb⟩:=hg;have hS:∀i t,i<=b.length->Sq BQ (sdS i (ub is) t (cw b)):=fun i t hi=>(Sq.apV (k:=GB) fun j _=>by
  split
  ·exact hb j
  ·exact Sq.zero _ (by unfold GB;omega)).le (by have:=gA (GB+1) (show i<=24 by omega);unfold GB BQ at *;omega)
 have hB:∀i,Sq BQ (b.getD i 0):=fun i=>(hb i).le (by unfold GB BQ;omega);have h1q:Sq BQ ((1:Int):Rat):=Sq.one (by unfold BQ;omega);unfold aS2;dsimp only;refine fun _ _=>dP (fun h=>(iQ fun e=>h (by rw [e.1])).symm) fun h _=>⟨0,⟨⟨rfl,rfl,rfl,rfl⟩,rfl,rfl⟩,⟨fK _,by omega,fun j hj=>absurd hj (gU j)⟩,fun i ⟨hi,hlen,bB⟩=>aH (fun h1=>?_) fun h1=>?_⟩
 ·have hi':i<b.length:=by omega
  refine ⟨⟨by omega,h1⟩,hB i,aH (fun h2=>(iQ fun e=>absurd (Ch.1 h2) (Int.not_lt.2 (Gf.2 (e.2.1 i hi')))).symm) fun h2=>⟨⟨by omega,by omega⟩,?_⟩⟩;have hp:0<=cw b i:=Gf.1 (Int.not_lt.1 fun h3=>h2 (Ch.2 h3));have aW7:∀j,j<i+1->0<=cw b j:=fun j hj=>by
   rcases bX j i with h4 | h4
   ·exact bB j h4
   ·rw [show j=i by omega];exact hp
  change bif ub is i then _ else _
  cases e:ub is i with
  | true=>exact ⟨⟨hS i true hi,hB i⟩,by unfold ax;omega,i+1,⟨⟨rfl,rfl,rfl,rfl⟩,aUn e,aVg (by rw [e];decide)⟩,⟨hi',hlen,aW7⟩,by omega⟩
  | false=>exact ⟨⟨hS i false hi,hB i⟩,by unfold ax;omega,i+1,⟨⟨rfl,rfl,rfl,rfl⟩,aVg (by rw [e];decide),aUn e⟩,⟨hi',hlen,aW7⟩,by omega⟩
 ·have e:i=b.length:=by omega
  subst e;refine ⟨by unfold ax;omega,⟨hS _ true (cM _),h1q⟩,aH (fun h2=>⟨by unfold ax;omega,⟨hS _ false (cM _),h1q⟩,?_⟩) fun h2=>(iQ fun e=>h2 (gz.2 e.2.2.1)).symm⟩;exact yT.2 ⟨fun h3=>⟨hlen,bB,gz.1 h2,gz.1 h3⟩,fun e=>gz.2 e.2.2.2⟩
theorem aW8:aqn (cfg []) aWJ:=cf aPi bp Tryz.func28 fun a _ _ _ hc hg hf=>by change a09 a=_ at hc;unfold a09 at hc;split at hc <;> cases hc;cases aY (aWY _ _) (aWZ _ _ hg hf);exact ⟨rfl,by kernel_rfl,_,by assumption⟩
def a2N:List AV->Option (Option Prop×AV×List Ob)
 | [.k (.list .q) b,.k (.list (.list .q)) M,.k (.list .bool) is]=>some (some (MgG M is b),T2 (.k (.list .q) (ptL M is b true)) (.k (.list .q) (ptL M is b false)),[])
 | _=>none
def aRA:az:=⟨29,false,a2N⟩
def aTA (b:List Rat) (M:List (List Rat)) (is:List Bool):bk:=⟨fun key_=>match key_ with | 12=>15 | _=>0,fun key_=>match key_ with
 | 4=>some (⟨Nat,fun i=>[(0,.k (.list .q) b),(2,.k (.list .bool) is),(6,.own 16 0 5),(7,.own 21 0 5),(22,.k (.list (.list .q)) M),(23,.k (.int .i64) ((M.length:Nat):Int)),(24,.k (.int .i64) ((i:Nat):Int))],
 fun i=>[(16,.arr 35 .q (aA (al M) (ptS M is b true i))),(21,.arr 35 .q (aA (al M) (ptS M is b false i)))],
 fun _ i=>i<=M.length,fun i=>M.length-i⟩)
 | 5000026=>some (⟨Nat×Nat,fun p=>[(0,.k (.list .q) b),(2,.k (.list .bool) is),(6,.own 16 0 5),(7,.own 21 0 5),(8,.k (.int .i64) ((p.2:Nat):Int)),(9,.k (.list .q) (M.getD p.2 [])),(10,.own 16 0 5),(22,.k (.list (.list .q)) M),(23,.k (.int .i64) ((M.length:Nat):Int)),(24,.k (.int .i64) ((p.2:Nat):Int)),(36,.k (.int .i64) ((al M:Nat):Int)),(37,.k (.int .i64) ((p.1:Nat):Int))],
 fun p=>[(16,.arr 35 .q (aA (al M) fun j=>ptS M is b true (if j<p.1 then p.2+1 else p.2) j)),(21,.arr 35 .q (aA (al M) (ptS M is b false p.2)))],
 fun q p=>p.2=q.2/\p.1<=al M/\p.2<M.length/\ub is p.2=true,fun p=>al M-p.1⟩)
 | 5000031=>some (⟨Nat×Nat,fun p=>[(0,.k (.list .q) b),(2,.k (.list .bool) is),(6,.own 16 0 5),(7,.own 21 0 5),(8,.k (.int .i64) ((p.2:Nat):Int)),(9,.k (.list .q) (M.getD p.2 [])),(10,.own 21 0 5),(22,.k (.list (.list .q)) M),(23,.k (.int .i64) ((M.length:Nat):Int)),(24,.k (.int .i64) ((p.2:Nat):Int)),(36,.k (.int .i64) ((al M:Nat):Int)),(37,.k (.int .i64) ((p.1:Nat):Int))],
 fun p=>[(16,.arr 35 .q (aA (al M) (ptS M is b true p.2))),(21,.arr 35 .q (aA (al M) fun j=>ptS M is b false (if j<p.1 then p.2+1 else p.2) j))],
 fun q p=>p.2=q.2/\p.1<=al M/\p.2<M.length/\ub is p.2≠true,fun p=>al M-p.1⟩) | _=>none,nR,fun key_=>match key_ with | 3000010=>11 | _=>0⟩
def aNV (b:List Rat) (M:List (List Rat)) (is:List Bool):Prop:=
 let t1:=(↑(al M):Int);
 ((0:Int)<=(0:Int)/\(0:Int)<(↑M.length:Int))/\((al M)<=aB->((0:Int)<=t1/\t1<=t1/\t1<=(1099511627776:Int))/\((0:Int)<=(0:Int)/\(0:Int)
 < (↑M.length:Int))/\((al M)<=aB->((0:Int)<=t1/\t1<=t1/\t1<=(1099511627776:Int))/\(M.length<=aB->∃(x0:Nat),((b=b/\is=is/\M=M/\(↑M.length
 : Int)=(↑M.length:Int)/\(0:Int)=(↑x0:Int))/\List.replicate t1.toNat (0:Rat)=aA (al M) (ptS M is b true x0)/\List.replicate t1.toNat (0:Rat)=aA
 (al M) (ptS M is b false x0))/\x0<=M.length/\∀(x:Nat),let u3:=M.getD (↑x:Int).toNat [];x<=M.length->bif decide ((↑x:Int)<(↑M.length:Int)) then ((0
 : Int)<=(↑x:Int)/\(↑x:Int)<(↑M.length:Int))/\((0:Int)<=(↑x:Int)/\(↑x:Int)<(↑is.length:Int))/\bif is.getD (↑x:Int).toNat false then u3.length <=
 aB->∃(x0b:Nat×Nat),((b=b/\is=is/\(↑x:Int)=(↑x0b.2:Int)/\M.getD (↑x:Int).toNat []=M.getD x0b.2 []/\M=M/\(↑M.length:Int)=(↑M.length:Int)
 /\ (↑x:Int)=(↑x0b.2:Int)/\(↑u3.length:Int)=t1/\(0:Int)=(↑x0b.1:Int))/\(aA (al M) (ptS M is b true x)=aA (al M) fun (j:Nat)=>ptS M is b
 true (if j<x0b.1 then x0b.2+(1:Nat) else x0b.2) j)/\aA (al M) (ptS M is b false x)=aA (al M) (ptS M is b false x0b.2))/\(x0b.2=x0b.2/\x0b.1<=al M
 /\ x0b.2<M.length/\ub is x0b.2=true)/\∀(y1:Nat×Nat),let u2:=aA (al M) fun (j:Nat)=>ptS M is b true (if j<y1.1 then y1.2+(1:Nat) else y1.2) j;
 y1.2=x0b.2/\y1.1<=al M/\y1.2<M.length/\ub is y1.2=true->bif decide ((↑y1.1:Int)<t1) then ((0:Int)<=(↑y1.1:Int)/\(↑y1.1:Int)<(↑u2.length :
 Int))/\(↑y1.1:Int).toNat<u2.length/\((0:Int)<=(↑y1.1:Int)/\(↑y1.1:Int)<(↑(M.getD y1.2 []).length:Int))/\((0:Int)<=(↑y1.2:Int)/\(↑y1.2:Int) <
 (↑b.length:Int))/\(Sq BQ ((M.getD y1.2 []).getD (↑y1.1:Int).toNat (0:Rat))/\Sq BQ (b.getD (↑y1.2:Int).toNat (0:Rat)))/\(Sq BQ (u2.getD (↑y1.1:Int).toNat (0
 : Rat))/\Sq BQ ((M.getD y1.2 []).getD (↑y1.1:Int).toNat (0:Rat)*b.getD (↑y1.2:Int).toNat (0:Rat)))/\((0:Int)<=(↑y1.1:Int)/\(↑y1.1:Int)<(↑u2.length :
 Int))/\(↑y1.1:Int).toNat<u2.length/\ax ((↑y1.1:Int)+(1:Int))/\∃(x':Nat×Nat),((b=b/\is=is/\(↑y1.2:Int)=(↑x'.2:Int)/\M.getD y1.2 [] =
 M.getD x'.2 []/\M=M/\(↑M.length:Int)=(↑M.length:Int)/\(↑y1.2:Int)=(↑x'.2:Int)/\t1=t1/\(↑y1.1:Int)+(1:Int)=(↑x'.1:Int))/\(u2.set (↑y1.1 :
 Int).toNat (u2.getD (↑y1.1:Int).toNat (0:Rat)+(M.getD y1.2 []).getD (↑y1.1:Int).toNat (0:Rat)*b.getD (↑y1.2:Int).toNat (0:Rat))=aA (al M) fun (j :
 Nat)=>ptS M is b true (if j<x'.1 then x'.2+(1:Nat) else x'.2) j)/\aA (al M) (ptS M is b false y1.2)=aA (al M) (ptS M is b false x'.2))/\(x'.2=x0b.2
 /\ x'.1<=al M/\x'.2<M.length/\ub is x'.2=true)/\al M-x'.1<al M-y1.1 else ax ((↑y1.2:Int)+(1:Int))/\∃(x'b:Nat),((b=b/\is=is/\M=M
 /\ (↑M.length:Int)=(↑M.length:Int)/\(↑y1.2:Int)+(1:Int)=(↑x'b:Int))/\u2=aA (al M) (ptS M is b true x'b)/\aA (al M) (ptS M is b false y1.2) =
 aA (al M) (ptS M is b false x'b))/\x'b<=M.length/\M.length-x'b<M.length-x else u3.length<=aB->∃(x0b:Nat×Nat),((b=b/\is=is/\(↑x:Int) =
 (↑x0b.2:Int)/\M.getD (↑x:Int).toNat []=M.getD x0b.2 []/\M=M/\(↑M.length:Int)=(↑M.length:Int)/\(↑x:Int)=(↑x0b.2:Int)/\(↑u3.length:Int)=t1/\(0
 : Int)=(↑x0b.1:Int))/\aA (al M) (ptS M is b true x)=aA (al M) (ptS M is b true x0b.2)/\aA (al M) (ptS M is b false x)=aA (al M) fun (j:Nat)=>
 ptS M is b false (if j<x0b.1 then x0b.2+(1:Nat) else x0b.2) j)/\(x0b.2=x0b.2/\x0b.1<=al M/\x0b.2<M.length/\ub is x0b.2≠true)/\∀(y1:Nat×Nat),
 let u1:=aA (al M) fun (j:Nat)=>ptS M is b false (if j<y1.1 then y1.2+(1:Nat) else y1.2) j;y1.2=x0b.2/\y1.1<=al M/\y1.2<M.length/\ub is y1.2 ≠
 true->bif decide ((↑y1.1:Int)<t1) then ((0:Int)<=(↑y1.1:Int)/\(↑y1.1:Int)<(↑u1.length:Int))/\(↑y1.1:Int).toNat<u1.length/\((0:Int)<=(↑y1.1 :
 Int)/\(↑y1.1:Int)<(↑(M.getD y1.2 []).length:Int))/\((0:Int)<=(↑y1.2:Int)/\(↑y1.2:Int)<(↑b.length:Int))/\(Sq BQ ((M.getD y1.2 []).getD (↑y1.1 :
 Int).toNat (0:Rat))/\Sq BQ (b.getD (↑y1.2:Int).toNat (0:Rat)))/\(Sq BQ (u1.getD (↑y1.1:Int).toNat (0:Rat))/\Sq BQ ((M.getD y1.2 []).getD (↑y1.1:Int).toNat
 (0:Rat)*b.getD (↑y1.2:Int).toNat (0:Rat)))/\((0:Int)<=(↑y1.1:Int)/\(↑y1.1:Int)<(↑u1.length:Int))/\(↑y1.1:Int).toNat<u1.length/\ax ((↑y1.1 :
 Int)+(1:Int))/\∃(x':Nat×Nat),((b=b/\is=is/\(↑y1.2:Int)=(↑x'.2:Int)/\M.getD y1.2 []=M.getD x'.2 []/\M=M/\(↑M.length:Int)=(↑M.length :
 Int)/\(↑y1.2:Int)=(↑x'.2:Int)/\t1=t1/\(↑y1.1:Int)+(1:Int)=(↑x'.1:Int))/\aA (al M) (ptS M is b true y1.2)=aA (al M) (ptS M is b true x'.2)
 /\ u1.set (↑y1.1:Int).toNat (u1.getD (↑y1.1:Int).toNat (0:Rat)+(M.getD y1.2 []).getD (↑y1.1:Int).toNat (0:Rat)*b.getD (↑y1.2:Int).toNat (0:Rat))=aA
 (al M) fun (j:Nat)=>ptS M is b false (if j<x'.1 then x'.2+(1:Nat) else x'.2) j)/\(x'.2=x0b.2/\x'.1<=al M/\x'.2<M.length/\ub is x'.2≠true) /\
 al M-x'.1<al M-y1.1 else ax ((↑y1.2:Int)+(1:Int))/\∃(x'b:Nat),((b=b/\is=is/\M=M/\(↑M.length:Int)=(↑M.length:Int)/\(↑y1.2:Int) +
 (1:Int)=(↑x'b:Int))/\aA (al M) (ptS M is b true y1.2)=aA (al M) (ptS M is b true x'b)/\u1=aA (al M) (ptS M is b false x'b))/\x'b<=M.length /\
 M.length-x'b<M.length-x else aA (al M) (ptS M is b true x)=ptL M is b true/\aA (al M) (ptS M is b false x)=ptL M is b false)))
theorem aSh (b:List Rat) (M:List (List Rat)) (is:List Bool):aw LJ1 [] (aTA b M is) Tryz.f29 (T2 (.k (.list .q) (ptL M is b true)) (.k (.list .q) (ptL M is b false))) [.k (.list .q) b,.k (.list (.list .q)) M,.k (.list .bool) is]=aNV b M is:=by kernel_rfl
theorem aSi (b:List Rat) (M:List (List Rat)) (is:List Bool) (hg:MgG M is b):aNV b M is:=by
 obtain ⟨m1,m2,m3⟩:=ba hg.right;have h24:=hg.n24;have h3:=hg.w3;have hl:=hg.len;have kh:=hg.lb;have gK:∀i j,Sq BQ ((M.getD i []).getD j 0):=fun i j=>(hg.sM i j).le (by unfold BQ;omega);have hbq:∀i,Sq BQ (b.getD i 0):=fun i=>(hg.sb i).le (by unfold GB BQ;omega);have Y9:∀i j,Sq BQ ((M.getD i []).getD j 0*b.getD i 0):=fun i j=>((hg.sM i j).mul (hg.sb i)).le (by unfold GB BQ;omega);have hpt:∀t m j,m<=M.length->Sq BQ (ptS M is b t m j):=fun t m j hm=>(hg.pt hm t j).le (by unfold BQ;omega);unfold aNV;dsimp only;rw [show ((al M:Nat):Int).toNat=al M from rfl];refine ⟨⟨by omega,by omega⟩,fun _=>⟨⟨by omega,by omega,by omega⟩,⟨by omega,by omega⟩,fun _=>⟨⟨by omega,by omega,by omega⟩,fun _=>⟨0,⟨⟨rfl,rfl,rfl,rfl,rfl⟩,iO _ _,iO _ _⟩,fK _,fun i hi=>aH (fun h=>?_) fun h=>?_⟩⟩⟩⟩
 ·have hi':i<M.length:=by omega
  refine ⟨⟨by omega,h⟩,⟨by omega,by omega⟩,?_⟩;change bif ub is i then _ else _
  cases e:ub is i with
  | true=>
   refine fun _=>⟨(0,i),⟨⟨rfl,rfl,rfl,rfl,rfl,rfl,rfl,?_,rfl⟩,bE fun j _=>by rw [aI (gU j)],rfl⟩,⟨rfl,fK _,hi',e⟩,fun ⟨j,i2⟩ ⟨e1,hj,h2,e2⟩=>?_⟩
   ·show (((M.getD i []).length:Nat):Int)=_;rw [m3 i hi']
   dsimp only at e1 hj h2 e2 ⊢;subst e1;refine aH (fun h4=>?_) fun h4=>?_
   ·have uC:j<al M:=by omega
    rw [show ((j:Nat):Int).toNat=j from rfl,show ((i2:Nat):Int).toNat=i2 from rfl,mX,fW uC,mY uC,aI (yo j)];refine ⟨⟨by omega,h4⟩,uC,⟨by omega,by rw [m3 i2 h2];exact h4⟩,⟨by omega,by omega⟩,⟨gK i2 j,hbq i2⟩,⟨hpt _ _ _ (by omega),Y9 i2 j⟩,⟨by omega,h4⟩,uC,by unfold ax;omega,(j+1,i2),⟨⟨rfl,rfl,rfl,rfl,rfl,rfl,rfl,rfl,rfl⟩,bE fun t ht=>?_,rfl⟩,⟨rfl,uC,h2,e2⟩,by show _-(j+1)<_-j;omega⟩;dsimp only;by_cases et:t=j
    ·rw [aV et,aV (by omega),et];exact (aPh e2 j).symm
    ·rw [aI et];by_cases et2:t<j
     ·rw [aV et2,aV (by omega)]
     ·rw [aI et2,aI (by omega)]
   ·have ej:j=al M:=by omega
    subst ej;exact ⟨by unfold ax;omega,i2+1,⟨⟨rfl,rfl,rfl,rfl,rfl⟩,bE fun t ht=>by rw [aV ht],bE fun t _=>(aSf (by rw [e2];decide) t).symm⟩,by omega,by omega⟩
  | false=>
   refine fun _=>⟨(0,i),⟨⟨rfl,rfl,rfl,rfl,rfl,rfl,rfl,?_,rfl⟩,rfl,bE fun j _=>by rw [aI (gU j)]⟩,⟨rfl,fK _,hi',by show ub is i≠true;rw [e];decide⟩,fun ⟨j,i2⟩ ⟨e1,hj,h2,e2⟩=>?_⟩
   ·show (((M.getD i []).length:Nat):Int)=_;rw [m3 i hi']
   dsimp only at e1 hj h2 e2 ⊢;subst e1;refine aH (fun h4=>?_) fun h4=>?_
   ·have uC:j<al M:=by omega
    rw [show ((j:Nat):Int).toNat=j from rfl,show ((i2:Nat):Int).toNat=i2 from rfl,mX,fW uC,mY uC,aI (yo j)];refine ⟨⟨by omega,h4⟩,uC,⟨by omega,by rw [m3 i2 h2];exact h4⟩,⟨by omega,by omega⟩,⟨gK i2 j,hbq i2⟩,⟨hpt _ _ _ (by omega),Y9 i2 j⟩,⟨by omega,h4⟩,uC,by unfold ax;omega,(j+1,i2),⟨⟨rfl,rfl,rfl,rfl,rfl,rfl,rfl,rfl,rfl⟩,rfl,bE fun t ht=>?_⟩,⟨rfl,uC,h2,e2⟩,by show _-(j+1)<_-j;omega⟩;dsimp only;by_cases et:t=j
    ·rw [aV et,aV (by omega),et];exact (aPh e j).symm
    ·rw [aI et];by_cases et2:t<j
     ·rw [aV et2,aV (by omega)]
     ·rw [aI et2,aI (by omega)]
   ·have ej:j=al M:=by omega
    subst ej;exact ⟨by unfold ax;omega,i2+1,⟨⟨rfl,rfl,rfl,rfl,rfl⟩,bE fun t _=>(aSf e2 t).symm,bE fun t ht=>by rw [aV ht]⟩,by omega,by omega⟩
 ·rw [show i=M.length by omega];exact ⟨rfl,rfl⟩
theorem aSj:aqn (cfg []) aRA:=cf aPi bp Tryz.func29 fun a _ _ _ hc hg hf=>by change a2N a=_ at hc;unfold a2N at hc;split at hc <;> cases hc;cases aY (aSh _ _ _) (aSi _ _ _ hg);exact ⟨rfl,by kernel_rfl,_,by assumption⟩
def a5x:List AV->Option (Option Prop×AV×List Ob)
 | [.k (.list .q) xs,.k (.list .q) ys]=>some (some (xs.length=ys.length/\lM xs ys),.k .q (dW xs ys),[])
 | _=>none
def aVm:az:=⟨30,false,a5x⟩
def aVn (xs ys:List Rat):bk:=⟨nU,nL,nR,nU⟩
def aVo (xs ys:List Rat):Prop:=(xs.length=ys.length->lM xs ys)/\(if xs.length=ys.length then dW xs ys else (0:Rat))=dW xs ys
theorem aUC (xs ys:List Rat):aw LJ1 [] (aVn xs ys) Tryz.f30 (.k .q (dW xs ys)) [.k (.list .q) xs,.k (.list .q) ys]=aVo xs ys:=by kernel_rfl
theorem aUD (xs ys:List Rat) (hg:xs.length=ys.length/\lM xs ys):aVo xs ys:=by exact ⟨fun _=>hg.2,aV hg.1⟩
theorem aUE:aqn (cfg []) aVm:=cf aPi bp Tryz.func30 fun a _ _ _ hc hg hf=>by change a5x a=_ at hc;unfold a5x at hc;split at hc <;> cases hc;cases aY (aUC _ _) (aUD _ _ hg);exact ⟨rfl,by kernel_rfl,_,by assumption⟩
noncomputable def LJ2:List az:=aRA::aVm::LJ1
theorem aV0:bd LJ2:=⟨aSj,aUE,aPi⟩
def aNW:List AV->Option (Option Prop×AV×List Ob)
 | [.k (.list .q) b,.k (.list (.list .q)) M,.k (.list .bool) is]=>some (some (MgG M is b),.agg (.cons (.agg (.cons (.k (.list .q) (wyL M is b)) (.cons (.k .q (stQ M is b)) .nil))) (.cons (.k .q (dW (wyL M is b) (wyL M is b))) (.cons (.k (.list .q) b) .nil))),[])
 | _=>none
def aRB:az:=⟨22,false,aNW⟩
def aTB (b:List Rat) (M:List (List Rat)) (is:List Bool):bk:=⟨fun key_=>match key_ with | 6=>10 | 9=>7 | _=>0,fun key_=>match key_ with
 | 4=>some (⟨Nat,fun i=>[(0,.k (.list .q) b),(6,.pt 6 0 12 0 0),(7,.k (.list .q) (ptL M is b true)),(8,.k (.list .q) (ptL M is b false)),(9,.own 22 0 5),(23,.own 22 0 5),(24,.k (.int .i64) ((al M:Nat):Int)),(25,.k (.int .i64) ((i:Nat):Int))],
 fun i=>[(6,.box 39 (.agg (.cons (.agg (.cons .dv (.cons (.k .q (0:Rat)) .nil))) (.cons (.k .q (0:Rat)) (.cons .dv .nil))))),(22,.arr 35 .q (aA (al M) fun j=>if j<i then ptS M is b true M.length j-ptS M is b false M.length j else 0))],
 fun _ i=>i<=al M,fun i=>al M-i⟩) | _=>none,nR,nU⟩
def aN3 (b:List Rat) (M:List (List Rat)) (is:List Bool):Prop:=
 let t1:=ptL M is b true;
 let t2:=ptL M is b false;
 MgG M is b/\(t1.length<=aB->((0:Int)<=(↑t1.length:Int)/\(↑t1.length:Int)<=(↑t1.length:Int)/\(↑t1.length:Int)<=(1099511627776:Int))/\((List.replicate
 (↑t1.length:Int).toNat (0:Rat)).length<=aB->∃(x0:Nat),((b=b/\ptL M is b true=ptL M is b true/\ptL M is b false=ptL M is b false/\(↑(List.replicate
 (↑t1.length:Int).toNat (0:Rat)).length:Int)=(↑(al M):Int)/\(0:Int)=(↑x0:Int))/\((0:Rat)=(0:Rat)/\(0:Rat)=(0:Rat))/\List.replicate
 (↑t1.length:Int).toNat (0:Rat)=aA (al M) fun (j:Nat)=>if j<x0 then ptS M is b true M.length j-ptS M is b false M.length j else (0:Rat))/\x0<=al M
 /\ ∀(x:Nat),x<=al M->bif decide ((↑x:Int)<(↑(al M):Int)) then ((0:Int)<=(↑x:Int)/\(↑x:Int)<(↑t1.length:Int))/\((0:Int)<=(↑x:Int)/\(↑x
 : Int)<(↑t2.length:Int))/\(Sq BQ (t1.getD (↑x:Int).toNat (0:Rat))/\Sq BQ (t2.getD (↑x:Int).toNat (0:Rat)))/\((0:Int)<=(↑x:Int)/\(↑x:Int)<(↑(aA
 (al M) fun (j:Nat)=>if j<x then ptS M is b true M.length j-ptS M is b false M.length j else (0:Rat)).length:Int))/\(↑x:Int).toNat<(aA (al M) fun
 (j:Nat)=>if j<x then ptS M is b true M.length j-ptS M is b false M.length j else (0:Rat)).length/\ax ((↑x:Int)+(1:Int))/\∃(x':Nat),((b=b/\ptL M
 is b true=ptL M is b true/\ptL M is b false=ptL M is b false/\(↑(al M):Int)=(↑(al M):Int)/\(↑x:Int)+(1:Int)=(↑x':Int))/\((0:Rat)=(0 :
 Rat)/\(0:Rat)=(0:Rat))/\(aA (al M) fun (j:Nat)=>if j<x then ptS M is b true M.length j-ptS M is b false M.length j else (0:Rat)).set (↑x :
 Int).toNat (t1.getD (↑x:Int).toNat (0:Rat)-t2.getD (↑x:Int).toNat (0:Rat))=aA (al M) fun (j:Nat)=>if j<x' then ptS M is b true M.length j-ptS M is
 b false M.length j else (0:Rat))/\x'<=al M/\al M-x'<al M-x else (t2.length=t2.length/\lM t2 t2)/\(t1.length=t1.length/\lM t1 t1)/\(Sq BQ
 (dW t2 t2)/\Sq BQ (dW t1 t1))/\ax (2:Int)/\(Sq BQ (dW t2 t2-dW t1 t1)/\Sq BQ (↑(2:Int):Rat))/\((aA (al M) fun (j:Nat)=>if j<x then ptS M
 is b true M.length j-ptS M is b false M.length j else (0:Rat)).length=(aA (al M) fun (j:Nat)=>if j<x then ptS M is b true M.length j-ptS M is b false
 M.length j else (0:Rat)).length/\lM (aA (al M) fun (j:Nat)=>if j<x then ptS M is b true M.length j-ptS M is b false M.length j else (0:Rat)) (aA
 (al M) fun (j:Nat)=>if j<x then ptS M is b true M.length j-ptS M is b false M.length j else (0:Rat)))/\((aA (al M) fun (j:Nat)=>if j<x then ptS M
 is b true M.length j-ptS M is b false M.length j else (0:Rat))=wyL M is b/\(dW t2 t2-dW t1 t1)/(↑(2:Int):Rat)=stQ M is b)/\dW (aA (al M) fun
 (j:Nat)=>if j<x then ptS M is b true M.length j-ptS M is b false M.length j else (0:Rat)) (aA (al M) fun (j:Nat)=>if j<x then ptS M is b true M.length
 j-ptS M is b false M.length j else (0:Rat))=dW (wyL M is b) (wyL M is b)/\b=b))
theorem aSk (b:List Rat) (M:List (List Rat)) (is:List Bool):aw LJ2 [] (aTB b M is) Tryz.f22 (.agg (.cons (.agg (.cons (.k (.list .q) (wyL M is b)) (.cons (.k .q (stQ M is b)) .nil))) (.cons (.k .q (dW (wyL M is b) (wyL M is b))) (.cons (.k (.list .q) b) .nil)))) [.k (.list .q) b,.k (.list (.list .q)) M,.k (.list .bool) is]=aN3 b M is:=by kernel_rfl
theorem aSm (b:List Rat) (M:List (List Rat)) (is:List Bool) (hg:MgG M is b):aN3 b M is:=by
 obtain ⟨m1,m2,m3⟩:=ba hg.right;have h3:=hg.w3;have lt:=aQP M is b true;have lf:=aQP M is b false;have hpt:∀t j,Sq BQ (ptS M is b t M.length j):=fun t j=>(hg.pt (cM _) t j).le (by unfold BQ;omega);have hd:∀t,Sq 700000000 (dW (ptL M is b t) (ptL M is b t)):=fun t=>aVi (hg.sp t) (hg.sp t) (hg.lp t) (by omega);unfold aN3;dsimp only;rw [lt,lf];refine ⟨hg,fun _=>⟨⟨by omega,by omega,by omega⟩,fun _=>⟨0,⟨⟨rfl,rfl,rfl,?_,rfl⟩,⟨rfl,rfl⟩,?_⟩,fK _,fun i hi=>aH (fun h=>?_) fun h=>?_⟩⟩⟩
 ·rw [tH];rfl
 ·exact (iO _ _).trans (bE fun j _=>(aI (gU j)).symm)
 ·have hi':i<al M:=by omega
  rw [show ((i:Nat):Int).toNat=i from rfl,aUo true hi',aUo false hi',mX,mY hi'];refine ⟨⟨by omega,h⟩,⟨by omega,h⟩,⟨hpt _ _,hpt _ _⟩,⟨by omega,h⟩,hi',by unfold ax;omega,i+1,⟨⟨rfl,rfl,rfl,rfl,rfl⟩,⟨rfl,rfl⟩,bE fun t _=>?_⟩,by omega,by omega⟩;by_cases e:t=i
  ·rw [aV e,aV (by omega),e]
  ·rw [aI e];by_cases e2:t<i
   ·rw [aV e2,aV (by omega)]
   ·rw [aI e2,aI (by omega)]
 ·have e:(aA (al M) fun j=>if j<i then ptS M is b true M.length j-ptS M is b false M.length j else 0)=wyL M is b:=bE fun j hj=>aV (by omega);rw [e];exact ⟨⟨rfl,aSg (hg.sp _) (hg.sp _) (hg.lp _) (by omega)⟩,⟨rfl,aSg (hg.sp _) (hg.sp _) (hg.lp _) (by omega)⟩,⟨(hd _).le (by unfold BQ;omega),(hd _).le (by unfold BQ;omega)⟩,by unfold ax;omega,⟨((hd _).sub (hd _)).le (by unfold BQ;omega),Sq.atH.le (by unfold BQ;omega)⟩,⟨rfl,aSg hg.sw hg.sw hg.lw (by omega)⟩,⟨rfl,rfl⟩,rfl,rfl⟩
theorem aSp:aqn (cfg []) aRB:=cf aV0 bp Tryz.func22 fun a _ _ _ hc hg hf=>by change aNW a=_ at hc;unfold aNW at hc;split at hc <;> cases hc;cases aY (aSk _ _ _) (aSm _ _ _ hg);exact ⟨rfl,by kernel_rfl,_,by assumption⟩
def aRp:List AV->Option (Option Prop×AV×List Ob)
 | [.k (.list .q) b,.k (.list (.list .q)) M,.k (.list .bool) is]=>some (some (MgG M is b),.k (.int .i64) (aL1 M is b),[])
 | _=>none
def aVN:az:=⟨40,false,aRp⟩
def aWx (b:List Rat) (M:List (List Rat)) (is:List Bool):bk:=⟨fun key_=>match key_ with | 6=>10 | _=>0,fun key_=>match key_ with
 | 4=>some (⟨Nat,fun i=>[(1,.k (.list (.list .q)) M),(2,.k (.list .bool) is),(7,.k (.list .q) (ptL M is b true)),(8,.k (.list .q) (ptL M is b false)),(9,.own 25 0 5),(26,.own 25 0 5),(27,.k (.int .i64) ((al M:Nat):Int)),(28,.k (.int .i64) ((i:Nat):Int))],
 fun i=>[(25,.arr 35 .q (aA (al M) fun j=>if j<i then ptS M is b true M.length j-ptS M is b false M.length j else 0))],
 fun _ i=>i<=al M,fun i=>al M-i⟩)
 | 10=>some (⟨Nat,fun i=>[(2,.k (.list .bool) is),(9,.k (.list .q) (wyL M is b)),(11,.pt 11 0 5 0 0),(12,.pt 12 0 5 0 0),(50,.k (.list (.list .q)) M),(51,.k (.int .i64) ((M.length:Nat):Int)),(52,.k (.int .i64) ((i:Nat):Int))],
 fun i=>[(11,.box 35 (.k .q (dW (wyL M is b) (ptL M is b true)))),(12,.box 35 (.k .q (dW (wyL M is b) (ptL M is b false))))],
 fun _ i=>i<=M.length/\∀j,j<i->aGr M is b j=false,fun i=>M.length-i⟩) | _=>none,nR,nU⟩
def aMy (b:List Rat) (M:List (List Rat)) (is:List Bool) (x:Nat):Prop:=((0:Int)<=(↑x:Int)/\(↑x:Int)<(↑is.length:Int))/\bif !is.getD (↑x:Int).toNat false then (Sq BQ (dW (wyL M is b) (M.getD (↑x:Int).toNat []))/\Sq BQ
 (dW (wyL M is b) (ptL M is b false)))/\bif decide ((0:Int)<fS (dW (wyL M is b) (M.getD (↑x:Int).toNat [])) (dW (wyL M is b) (ptL M is b false))) then (↑x :
 Int)=aL1 M is b else ax ((↑x:Int)+(1:Int))/\∃(x':Nat),((is=is/\wyL M is b=wyL M is b/\M=M/\(↑M.length:Int)=(↑M.length:Int)/\(↑x:Int) +
 (1:Int)=(↑x':Int))/\dW (wyL M is b) (ptL M is b true)=dW (wyL M is b) (ptL M is b true)/\dW (wyL M is b) (ptL M is b false)=dW (wyL M is b) (ptL M is
 b false))/\(x'<=M.length/\∀(j:Nat),j<x'->aGr M is b j=false)/\M.length-x'<M.length-x else ax ((↑x:Int)+(1:Int))/\∃(x':Nat),((is=is /\
 wyL M is b=wyL M is b/\M=M/\(↑M.length:Int)=(↑M.length:Int)/\(↑x:Int)+(1:Int)=(↑x':Int))/\dW (wyL M is b) (ptL M is b true)=dW (wyL M is b)
 (ptL M is b true)/\dW (wyL M is b) (ptL M is b false)=dW (wyL M is b) (ptL M is b false))/\(x'<=M.length/\∀(j:Nat),j<x'->aGr M is b j=false) /\
 M.length-x'<M.length-x
def aRq (b:List Rat) (M:List (List Rat)) (is:List Bool):Prop:=
 let t1:=ptL M is b true;
 let t2:=ptL M is b false;
 MgG M is b/\(t1.length<=aB->((0:Int)<=(↑t1.length:Int)/\(↑t1.length:Int)<=(↑t1.length:Int)/\(↑t1.length:Int)<=(1099511627776:Int))/\((List.replicate
 (↑t1.length:Int).toNat (0:Rat)).length<=aB->∃(x0:Nat),((M=M/\is=is/\ptL M is b true=ptL M is b true/\ptL M is b false=ptL M is b false /\
 (↑(List.replicate (↑t1.length:Int).toNat (0:Rat)).length:Int)=(↑(al M):Int)/\(0:Int)=(↑x0:Int))/\List.replicate (↑t1.length:Int).toNat (0:Rat) =
 aA (al M) fun (j:Nat)=>if j<x0 then ptS M is b true M.length j-ptS M is b false M.length j else (0:Rat))/\x0<=al M/\∀(x:Nat),x<=al M->bif
 decide ((↑x:Int)<(↑(al M):Int)) then ((0:Int)<=(↑x:Int)/\(↑x:Int)<(↑t1.length:Int))/\((0:Int)<=(↑x:Int)/\(↑x:Int)<(↑t2.length:Int)) /\
 (Sq BQ (t1.getD (↑x:Int).toNat (0:Rat))/\Sq BQ (t2.getD (↑x:Int).toNat (0:Rat)))/\((0:Int)<=(↑x:Int)/\(↑x:Int)<(↑(aA (al M) fun (j:Nat)=>if j
 < x then ptS M is b true M.length j-ptS M is b false M.length j else (0:Rat)).length:Int))/\(↑x:Int).toNat<(aA (al M) fun (j:Nat)=>if j<x then ptS M
 is b true M.length j-ptS M is b false M.length j else (0:Rat)).length/\ax ((↑x:Int)+(1:Int))/\∃(x':Nat),((M=M/\is=is/\ptL M is b true=ptL M is b
 true/\ptL M is b false=ptL M is b false/\(↑(al M):Int)=(↑(al M):Int)/\(↑x:Int)+(1:Int)=(↑x':Int))/\(aA (al M) fun (j:Nat)=>if j<x
 then ptS M is b true M.length j-ptS M is b false M.length j else (0:Rat)).set (↑x:Int).toNat (t1.getD (↑x:Int).toNat (0:Rat)-t2.getD (↑x:Int).toNat (0 :
 Rat))=aA (al M) fun (j:Nat)=>if j<x' then ptS M is b true M.length j-ptS M is b false M.length j else (0:Rat))/\x'<=al M/\al M-x'<al M-x
 else ((aA (al M) fun (j:Nat)=>if j<x then ptS M is b true M.length j-ptS M is b false M.length j else (0:Rat)).length=t1.length/\lM (aA (al M) fun
 (j:Nat)=>if j<x then ptS M is b true M.length j-ptS M is b false M.length j else (0:Rat)) t1)/\((aA (al M) fun (j:Nat)=>if j<x then ptS M is b true
 M.length j-ptS M is b false M.length j else (0:Rat)).length=t2.length/\lM (aA (al M) fun (j:Nat)=>if j<x then ptS M is b true M.length j-ptS M is b
 false M.length j else (0:Rat)) t2)/\(M.length<=aB->∃(x0:Nat),((is=is/\(aA (al M) fun (j:Nat)=>if j<x then ptS M is b true M.length j-ptS M is b
 false M.length j else (0:Rat))=wyL M is b/\M=M/\(↑M.length:Int)=(↑M.length:Int)/\(0:Int)=(↑x0:Int))/\dW (aA (al M) fun (j:Nat)=>if j<x
 then ptS M is b true M.length j-ptS M is b false M.length j else (0:Rat)) t1=dW (wyL M is b) t1/\dW (aA (al M) fun (j:Nat)=>if j<x then ptS M is b
 true M.length j-ptS M is b false M.length j else (0:Rat)) t2=dW (wyL M is b) t2)/\(x0<=M.length/\∀(j:Nat),j<x0->aGr M is b j=false)/\∀(x:Nat),
 let u1:=M.getD (↑x:Int).toNat [];(x<=M.length/\∀(j:Nat),j<x->aGr M is b j=false)->bif decide ((↑x:Int)<(↑M.length:Int)) then ((0:Int)<=(↑x :
 Int)/\(↑x:Int)<(↑M.length:Int))/\((wyL M is b).length=u1.length/\lM (wyL M is b) u1)/\((0:Int)<=(↑x:Int)/\(↑x:Int)<(↑is.length:Int))/\bif
 is.getD (↑x:Int).toNat false then (Sq BQ (dW (wyL M is b) u1)/\Sq BQ (dW (wyL M is b) t1))/\bif decide (fS (dW (wyL M is b) u1) (dW (wyL M is b) t1)<(0 :
 Int)) then (↑x:Int)=aL1 M is b else aMy b M is x else aMy b M is x else (-1:Int)=aL1 M is b)))
theorem aWm (b:List Rat) (M:List (List Rat)) (is:List Bool):aw LJ2 [] (aWx b M is) Tryz.f40 (.k (.int .i64) (aL1 M is b)) [.k (.list .q) b,.k (.list (.list .q)) M,.k (.list .bool) is]=aRq b M is:=by kernel_rfl
theorem aWn (b:List Rat) (M:List (List Rat)) (is:List Bool) (hg:MgG M is b):aRq b M is:=by
 obtain ⟨m1,m2,m3⟩:=ba hg.right;have h3:=hg.w3;have h24:=hg.n24;have hl:=hg.len;have lt:=aQP M is b true;have lf:=aQP M is b false;have hpt:∀t j,Sq BQ (ptS M is b t M.length j):=fun t j=>(hg.pt (cM _) t j).le (by unfold BQ;omega);have hd:∀t,Sq BQ (dW (wyL M is b) (ptL M is b t)):=fun t=>(aVi hg.sw (hg.sp t) hg.lw (by omega)).le (by unfold BQ;omega);have hr:∀i,Sq BQ (dW (wyL M is b) (M.getD i [])):=fun i=>(aVi hg.sw (hg.sM i) hg.lw (by omega)).le (by unfold BQ;omega);unfold aRq;dsimp only;rw [lt,lf];refine ⟨hg,fun _=>⟨⟨by omega,by omega,by omega⟩,fun _=>⟨0,⟨⟨rfl,rfl,rfl,rfl,?_,rfl⟩,?_⟩,fK _,fun i hi=>aH (fun h=>?_) fun h=>?_⟩⟩⟩
 ·rw [tH];rfl
 ·exact (iO _ _).trans (bE fun j _=>(aI (gU j)).symm)
 ·have hi':i<al M:=by omega
  rw [show ((i:Nat):Int).toNat=i from rfl,aUo true hi',aUo false hi',mX,mY hi'];refine ⟨⟨by omega,h⟩,⟨by omega,h⟩,⟨hpt _ _,hpt _ _⟩,⟨by omega,h⟩,hi',by unfold ax;omega,i+1,⟨⟨rfl,rfl,rfl,rfl,rfl,rfl⟩,bE fun t _=>?_⟩,by omega,by omega⟩;by_cases e:t=i
  ·rw [aV e,aV (by omega),e]
  ·rw [aI e];by_cases e2:t<i
   ·rw [aV e2,aV (by omega)]
   ·rw [aI e2,aI (by omega)]
 ·have e:(aA (al M) fun j=>if j<i then ptS M is b true M.length j-ptS M is b false M.length j else 0)=wyL M is b:=bE fun j hj=>aV (by omega);rw [e];refine ⟨⟨aVh ..,aSg hg.sw (hg.sp _) hg.lw (by omega)⟩,⟨aVh ..,aSg hg.sw (hg.sp _) hg.lw (by omega)⟩,fun _=>⟨0,⟨⟨rfl,rfl,rfl,rfl,rfl⟩,rfl,rfl⟩,⟨fK _,fun j hj=>absurd hj (gU j)⟩,fun k ⟨hk,bB⟩=>aH (fun h=>?_) fun h=>(aXz fun j hj=>bB j (by omega)).symm⟩⟩;have sF:k<M.length:=by omega
  have nT:aGr M is b k=false->∀j,j<k+1->aGr M is b j=false:=fun h5 j hj=>by
   rcases bX j k with h4 | h4
   ·exact bB j h4
   ·rw [show j=k by omega];exact h5
  refine ⟨⟨by omega,h⟩,⟨by rw [aVh];exact (m3 k sF).symm,aSg hg.sw (hg.sM _) hg.lw (by omega)⟩,⟨by omega,by omega⟩,?_⟩;unfold aMy;rw [show is.getD ((k:Nat):Int).toNat false=ub is k from rfl,show M.getD ((k:Nat):Int).toNat []=M.getD k [] from rfl]
  cases e:ub is k with
  | true=>refine ⟨⟨hr k,hd true⟩,aH (fun h2=>(aWN sF bB (by unfold aGr;rw [aV e];exact pK (aUR.1 h2))).symm) fun h2=>⟨⟨by omega,by omega⟩,?_⟩⟩;rw [show (!true)=false from rfl,sC];exact ⟨by unfold ax;omega,k+1,⟨⟨rfl,rfl,rfl,rfl,rfl⟩,rfl,rfl⟩,⟨sF,nT (by unfold aGr;rw [aV e];exact iQ fun h3=>h2 (aUR.2 h3))⟩,by omega⟩
  | false=>
   refine ⟨⟨by omega,by omega⟩,?_⟩;rw [show (!false)=true from rfl,iR];have en:¬ub is k=true:=by rw [e];decide
   exact ⟨⟨hr k,hd false⟩,aH (fun h2=>(aWN sF bB (by unfold aGr;rw [aI en];exact pK (aWO.1 h2))).symm) fun h2=>⟨by unfold ax;omega,k+1,⟨⟨rfl,rfl,rfl,rfl,rfl⟩,rfl,rfl⟩,⟨sF,nT (by unfold aGr;rw [aI en];exact iQ fun h3=>h2 (aWO.2 h3))⟩,by omega⟩⟩
theorem aWo:aqn (cfg []) aVN:=cf aV0 bp Tryz.func40 fun a _ _ _ hc hg hf=>by change aRp a=_ at hc;unfold aRp at hc;split at hc <;> cases hc;cases aY (aWm _ _ _) (aWn _ _ _ hg);exact ⟨rfl,by kernel_rfl,_,by assumption⟩
end Go.Proofs.YtefbmebfkfeefaaGreatDoor.AM
namespace Go.Proofs.YtefbmebfkfeefaaGreatDoor.AM
open Go.RowKit
variable {w:Nat} {v:Nat->Nat->Rat} {s:Nat->Bool} {r:Nat->Nat} {m:Nat}
def kkP (w:Nat) (v:Nat->Nat->Rat) (s:Nat->Bool) (r:Nat->Nat) (m i a c:Nat):Rat:=if a<m then (if a<i then kkF w v s r m a c else 0) else if c<i then kkF w v s r m a c else 0
def kkQ (w:Nat) (v:Nat->Nat->Rat) (s:Nat->Bool) (r:Nat->Nat) (m i k a c:Nat):Rat:=if a=i/\c<k then gmM w v (r i) (r c) else kkP w v s r m i a c
theorem aW0 (a c:Nat):(0:Rat)=kkP w v s r m 0 a c:=by unfold kkP;rw [aI (gU a),aI (gU c)];split <;> rfl
theorem aW1 (i a c:Nat):kkP w v s r m i a c=kkQ w v s r m i 0 a c:=(aI fun h=>gU c h.2).symm
theorem aWs (i k a c:Nat):(if a=i/\c=k then gmM w v (r i) (r k) else kkQ w v s r m i k a c)=kkQ w v s r m i (k+1) a c:=by
 unfold kkQ;by_cases h:a=i
 ·by_cases h2:c=k
  ·rw [aV ⟨h,h2⟩,aV ⟨h,by omega⟩,h2]
  ·rw [aI fun e=>h2 e.2];by_cases h3:c<k
   ·rw [aV ⟨h,h3⟩,aV ⟨h,by omega⟩]
   ·rw [aI fun e=>h3 e.2,aI fun e=>h3 (by have:=e.2;omega)]
 ·rw [aI fun e=>h e.1,aI fun e=>h e.1,aI fun e=>h e.1]
theorem aW2 {i a c:Nat} (hi:i<m):(if a=m+sd1 (s (r i))/\c=i then 1 else if a=i/\c=m+sd1 (s (r i)) then -1 else kkQ w v s r m i m a c)=kkP w v s r m (i+1) a c:=by
 unfold kkQ kkP;by_cases ha:a<m
 ·rw [aI fun e=>by have:=e.1;omega,aV ha,aV ha];by_cases h:a=i
  ·subst h;rw [aI (yo a),aV (tF a)];unfold kkF;rw [aV ha];by_cases hc:c<m
   ·rw [aI fun e=>by have:=e.2;omega,aV ⟨rfl,hc⟩,aV hc]
   ·rw [aI hc,aI (fun e=>hc e.2:¬(a=a/\c<m))];by_cases h2:c=m+sd1 (s (r a))
    ·rw [aV ⟨rfl,h2⟩,aV h2]
    ·rw [aI fun e=>h2 e.2,aI h2]
  ·rw [aI fun e=>h e.1,aI fun e=>h e.1];by_cases h2:a<i
   ·rw [aV h2,aV (by omega)]
   ·rw [aI h2,aI (by omega)]
 ·rw [aI ha,aI ha,aI (fun e=>by have:=e.1;omega:¬(a=i/\c=m+sd1 (s (r i)))),aI (fun e=>by have:=e.1;omega:¬(a=i/\c<m))];by_cases h:c=i
  ·subst h;rw [aI (yo c),aV (tF c)];unfold kkF;rw [aI ha,aV hi];by_cases h2:a=m+sd1 (s (r c))
   ·rw [aV ⟨h2,rfl⟩,aV h2]
   ·rw [aI fun e=>h2 e.1,aI h2]
  ·rw [aI fun e=>h e.2];by_cases h2:c<i
   ·rw [aV h2,aV (by omega)]
   ·rw [aI h2,aI (by omega)]
theorem aXj (a c:Nat):kkP w v s r m m a c=kkF w v s r m a c:=by
 unfold kkP;by_cases ha:a<m
 ·rw [aV ha,aV ha]
 ·rw [aI ha];by_cases hc:c<m
  ·rw [aV hc]
  ·rw [aI hc];unfold kkF;rw [aI ha,aI hc]
theorem aXk (m:Nat):((List.replicate (m+2) (0:Rat)).set m 1).set (m+1) 1=aA (m+2) (kkB m):=by
 rw [iO,mY (by omega),mY (by omega)];refine bE fun j hj=>?_;unfold kkB;by_cases h1:j=m+1
 ·rw [aV h1,aI (by omega)]
 ·rw [aI h1];by_cases h2:j=m
  ·rw [aV h2,aI (by omega)]
  ·rw [aI h2,aV (by omega)]
theorem aWG {n m:Nat} {A B:Nat->Nat->Rat} {b c:Nat->Rat} (hA:∀i j,i<n->j<m->A i j=B i j) (hb:∀i,i<n->b i=c i):ajj n m A b=ajj n m B c/\∀j,ak8 n m A b j=ak8 n m B c j:=by
 obtain ⟨h1,h2⟩:=aed (n:=n) (m:=m+1) (F:=abD m A b) (G:=abD m B c) (fun i j hi hj=>by
  unfold abD;by_cases h:j<m
  ·rw [aV h,aV h,hA i j hi h]
  ·rw [aI h,aI h,hb i hi]) (m+1) (cM _)
 refine ⟨by unfold ajj;rw [h1],fun j=>?_⟩;unfold ak8 akD;rw [h1];by_cases h:(rr n (abD m B c) (m+1)).2.idxOf j<(rr n (abD m B c) (m+1)).2.length
 ·rw [aV h,aV h];exact h2 _ _ (fi h (acG _ _ _)) (tF m)
 ·rw [aI h,aI h]
theorem aXl {n:Nat} {U:Nat->Bool} (hi:aBb n w v s fun i=>U i=true) (hs:∀t,∃i,i<n/\s i=t/\U i=true) :
  okS (aG (rkU U n+2) (rkU U n+2) (kkF w v s (rU U n) (rkU U n))) (aA (rkU U n+2) (kkB (rkU U n)))=true /\
  abL (aG (rkU U n+2) (rkU U n+2) (kkF w v s (rU U n) (rkU U n))) (aA (rkU U n+2) (kkB (rkU U n)))=true /\
  aer (aG (rkU U n+2) (rkU U n+2) (kkF w v s (rU U n) (rkU U n))) (aA (rkU U n+2) (kkB (rkU U n)))=aA (rkU U n+2) (ak8 (rkU U n+2) (rkU U n+2) (kkF w v s (rU U n) (rkU U n)) (kkB (rkU U n))):=by
 have h0:=(aOt hi hs).1
 have hN:0<rkU U n+2:=Ax _
 generalize rkU U n+2=N at *
 have hc:al (aG N N (kkF w v s (rU U n) (rkU U n)))=N:=tM hN _
 obtain ⟨h1,h2⟩:=aWG (n:=N) (m:=N) (A:=el (aG N N (kkF w v s (rU U n) (rkU U n)))) (B:=kkF w v s (rU U n) (rkU U n)) (b:=fun i=>(aA N (kkB (rkU U n))).getD i 0) (c:=kkB (rkU U n)) (fun i j hi hj=>Ny hi hj) (fun i hi=>fW hi 0)
 refine ⟨?_,?_,?_⟩
 ·unfold okS
  rw [Lh hN hN,mkM_len,mX,pK rfl];rfl
 ·unfold abL
  rw [hc,mkM_len,h1];exact h0
 ·unfold aer
  rw [hc,mkM_len]
  exact bE fun j _=>h2 j
end Go.Proofs.YtefbmebfkfeefaaGreatDoor.AM
namespace Go.Proofs.YtefbmebfkfeefaaGreatDoor.AM
open Go.RowKit
theorem aO0 {x:Rat}:x.num.sign<0↔x<0:=⟨fun h=>Rat.not_le.1 fun h3=>absurd (Ch.1 h) (Int.not_lt.2 (Gf.2 h3)),fun h=>Ch.2 (Int.not_le.1 fun h4=>absurd (Gf.1 h4) (Rat.not_le.2 h))⟩
theorem aUp {x:Rat}:0<x.num.sign↔0<x:=by
 rw [Int.sign_pos_iff];constructor
 ·intro h;refine Rat.not_le.1 fun h3=>?_;have h4:0 <= -x:=by grind
  have:=Gf.2 h4;rw [Rat.neg_num] at this;omega
 ·intro h;refine Int.not_le.1 fun h3=>?_;have h4:0<=(-x).num:=by rw [Rat.neg_num];omega
  have:=Gf.1 h4;grind
def a5y:List AV->Option (Option Prop×AV×List Ob)
 | [.k .q x,.k .q y]=>some (some (Sq BQ x/\Sq BQ y),.k .q (if y<x then y else x),[])
 | _=>none
def aXm:az:=⟨65,false,a5y⟩
def aXn (x y:Rat):bk:=⟨nU,nL,nR,nU⟩
def aXo (x y:Rat):Prop:=(Sq BQ y/\Sq BQ x)/\bif decide (fS y x<(0:Int)) then y=if y<x then y else x else x=if y<x then y else x
theorem aW4 (x y:Rat):aw LJ1 [] (aXn x y) Tryz.f65 (.k .q (if y<x then y else x)) [.k .q x,.k .q y]=aXo x y:=by kernel_rfl
theorem aW5 (x y:Rat) (hg:Sq BQ x/\Sq BQ y):aXo x y:=by obtain ⟨h1,h2⟩:=hg;exact ⟨⟨h2,h1⟩,aH (fun h=>(aV (aUR.1 h)).symm) fun h=>(aI fun h3=>h (aUR.2 h3)).symm⟩
theorem aW6:aqn (cfg []) aXm:=cf aPi bp Tryz.func65 fun a _ _ _ hc hg hf=>by change a5y a=_ at hc;unfold a5y at hc;split at hc <;> cases hc;cases aY (aW4 _ _) (aW5 _ _ hg);exact ⟨rfl,by kernel_rfl,_,by assumption⟩
structure TwG (b t:List Rat) (us:List Bool):Prop where
 lt:t.length=b.length
 lu:us.length=b.length
 n24:b.length<=24
 nn:∀i,0<=cw b i
 sb:SL 1000000 b
 st:SL 1000 t
noncomputable def LJ3:List az:=aXm::LJ1
theorem aV2:bd LJ3:=⟨aW6,aPi⟩
def a2O:List AV->Ob->Ob->Option (Option Prop×AV×Ob×Ob)
 | [.own 1000000 0 5,.k (.list .q) t,.own 1000001 0 1],.arr 35 .q b,.arr 4 .bool us=>some (some (TwG b t us),.k .bool (decide (twX b t us=1)),.arr 35 .q (twB b t us),.arr 4 .bool (twU b t us))
 | _,_,_=>none
def aRC:awe:=⟨42,0,2,a2O⟩
def aTC (b t:List Rat) (us:List Bool):bk:=⟨fun key_=>match key_ with | 6=>18 | 13=>17 | 16=>2 | _=>0,fun key_=>match key_ with
 | 3=>some (⟨Nat,fun i=>[(0,.own 1000000 0 5),(1,.k (.list .q) t),(2,.own 1000001 0 1),(7,.pt 7 0 5 0 0),(14,.k (.int .i64) ((b.length:Nat):Int)),(15,.k (.int .i64) ((i:Nat):Int))],
 fun i=>[(7,.box 35 (.k .q (stW (ub us) (cw b) (cw t) i))),(1000000,.arr 35 .q b),(1000001,.arr 4 .bool us)],
 fun _ i=>i<=b.length,fun i=>b.length-i⟩)
 | 10=>some (⟨Nat,fun i=>[(0,.own 1000000 0 5),(1,.k (.list .q) t),(2,.own 1000001 0 1),(7,.pt 7 0 5 0 0),(52,.k (.int .i64) ((b.length:Nat):Int)),(53,.k (.int .i64) ((i:Nat):Int))],
 fun i=>[(7,.box 35 (.k .q (twX b t us))),(1000000,.arr 35 .q (aA b.length fun j=>if j<i then nxW (ub us) (cw b) (cw t) (twX b t us) j else cw b j)),(1000001,.arr 4 .bool (aA us.length fun j=>if j<i then nuW (ub us) (cw (twB b t us)) j else ub us j))],
 fun _ i=>i<=b.length,fun i=>b.length-i⟩) | _=>none,nR,nU⟩
def aN4 (b t:List Rat) (us:List Bool):Prop:=let a2:=(↑b.length:Int);let a3:=twX b t us;let a4:=(↑(1:Int):Rat);let a5:=(↑t.length:Int);
 let t1:=cw (twB b t us);
 ax (1:Int)/\(b.length<=aB->∃(x0:Nat),((t=t/\a2=a2/\(0:Int)=(↑x0:Int))/\a4=stW (ub us) (cw b) (cw
 t) x0/\b=b/\us=us)/\x0<=b.length/\∀(x:Nat),x<=b.length->bif decide ((↑x:Int)<a2) then ((0:Int)<=(↑x:Int)/\(↑x:Int)<(↑us.length
 : Int))/\(↑x:Int).toNat<us.length/\bif us.getD (↑x:Int).toNat false then ((0:Int)<=(↑x:Int)/\(↑x:Int)<a5)/\Sq BQ (t.getD (↑x :
 Int).toNat (0:Rat))/\bif decide ((t.getD (↑x:Int).toNat (0:Rat)).num.sign<(0:Int)) then ((0:Int)<=(↑x:Int)/\(↑x:Int)<a2)/\(↑x :
 Int).toNat<b.length/\((0:Int)<=(↑x:Int)/\(↑x:Int)<a2)/\(↑x:Int).toNat<b.length/\((0:Int)<=(↑x:Int)/\(↑x:Int)<a5)/\(Sq BQ (b.getD (↑x:Int).toNat (0:Rat))/\Sq BQ (t.getD (↑x:Int).toNat (0:Rat)))/\(Sq BQ (b.getD (↑x:Int).toNat (0:Rat))/\Sq BQ (b.getD (↑x :
 Int).toNat (0:Rat)-t.getD (↑x:Int).toNat (0:Rat)))/\(Sq BQ (stW (ub us) (cw b) (cw t) x)/\Sq BQ (b.getD (↑x:Int).toNat (0:Rat)/(b.getD (↑x:Int).toNat (0
 : Rat)-t.getD (↑x:Int).toNat (0:Rat))))/\ax ((↑x:Int)+(1:Int))/\∃(x':Nat),((t=t/\a2=a2/\(↑x:Int)+(1:Int) =
 (↑x':Int))/\(if b.getD (↑x:Int).toNat (0:Rat)/(b.getD (↑x:Int).toNat (0:Rat)-t.getD (↑x:Int).toNat (0:Rat))<stW (ub us) (cw b) (cw t) x then b.getD
 (↑x:Int).toNat (0:Rat)/(b.getD (↑x:Int).toNat (0:Rat)-t.getD (↑x:Int).toNat (0:Rat)) else stW (ub us) (cw b) (cw t) x)=stW (ub us) (cw b) (cw t) x'/\b
 = b/\us=us)/\x'<=b.length/\b.length-x'<b.length-x else ax ((↑x:Int)+(1:Int))/\∃(x':Nat),((t=t/\a2=a2/\(↑x :
 Int)+(1:Int)=(↑x':Int))/\stW (ub us) (cw b) (cw t) x=stW (ub us) (cw b) (cw t) x'/\b=b/\us=us)/\x'<=b.length/\b.length-x'<b.length-x else ax
 ((↑x:Int)+(1:Int))/\∃(x':Nat),((t=t/\a2=a2/\(↑x:Int)+(1:Int)=(↑x':Int))/\stW (ub us) (cw b) (cw t) x=stW (ub
 us) (cw b) (cw t) x'/\b=b/\us=us)/\x'<=b.length/\b.length-x'<b.length-x else b.length<=aB->∃(a0:Nat),((t=t/\a2=a2
 /\ (0:Int)=(↑a0:Int))/\stW (ub us) (cw b) (cw t) x=twX b t us/\(b=aA b.length fun (j:Nat)=>if j<a0 then nxW (ub us) (cw b) (cw t) a3 j else cw
 b j)/\us=aA us.length fun (j:Nat)=>if j<a0 then nuW (ub us) t1 j else ub us j)/\a0<=b.length/\∀(a1:Nat),
 let u6:=(↑(aA us.length fun (j:Nat)=>if j<a1 then nuW (ub us) t1 j else ub us j).length:Int);
 let u5:=(aA b.length fun (j:Nat)=>if j<a1 then nxW (ub us) (cw b) (cw t) a3 j else cw b j).getD (↑a1:Int).toNat (0:Rat);
 let u3:=(↑(aA b.length fun (j:Nat)=>if j<a1 then nxW (ub us) (cw b) (cw t) a3 j else cw b j).length:Int);
 let u2:=t.getD (↑a1:Int).toNat (0:Rat)-(aA b.length fun (j:Nat)=>if j<a1 then nxW (ub us) (cw b) (cw t) a3 j else cw b j).getD (↑a1:Int).toNat (0:Rat);
 let u4:=(aA b.length fun (j:Nat)=>if j<a1 then nxW (ub us) (cw b) (cw t) a3 j else cw b j).getD (↑a1:Int).toNat (0:Rat)+twX b t us*u2;
 let u1:=(aA b.length fun (j:Nat)=>if j<a1 then nxW (ub us) (cw b) (cw t) a3 j else cw b j).set (↑a1:Int).toNat u4;a1<=b.length->bif decide ((↑a1 :
 Int)<a2) then ((0:Int)<=(↑a1:Int)/\(↑a1:Int)<u6)/\(↑a1:Int).toNat<(aA us.length fun (j:Nat)=>if j<a1 then nuW (ub us) t1 j else ub us
 j).length/\bif (aA us.length fun (j:Nat)=>if j<a1 then nuW (ub us) t1 j else ub us j).getD (↑a1:Int).toNat false then ((0:Int)<=(↑a1:Int)/\(↑a1:Int)<u3) /\
 (↑a1:Int).toNat<(aA b.length fun (j:Nat)=>if j<a1 then nxW (ub us) (cw b) (cw t) a3 j else cw b j).length/\((0:Int)<=(↑a1:Int)/\(↑a1:Int) <
 a5)/\((0:Int)<=(↑a1:Int)/\(↑a1:Int)<u3)/\(↑a1:Int).toNat<(aA b.length fun (j:Nat)=>if j<a1 then nxW (ub us) (cw b) (cw t) a3 j
 else cw b j).length/\(Sq BQ (t.getD (↑a1:Int).toNat (0:Rat))/\Sq BQ u5)/\(Sq BQ a3/\Sq BQ u2)/\(Sq BQ u5/\Sq BQ (twX b t us*u2))/\((0:Int)<=(↑a1 :
 Int)/\(↑a1:Int)<u3)/\(↑a1:Int).toNat<(aA b.length fun (j:Nat)=>if j<a1 then nxW (ub us) (cw b) (cw t) a3 j else cw b j).length/\((0:Int)<=(↑a1
 : Int)/\(↑a1:Int)<(↑u1.length:Int))/\(↑a1:Int).toNat<u1.length/\Sq BQ (u1.getD (↑a1:Int).toNat (0:Rat))/\((0:Int)<=(↑a1:Int)/\(↑a1:Int)<u6)/\(↑a1 :
 Int).toNat<(aA us.length fun (j:Nat)=>if j<a1 then nuW (ub us) t1 j else ub us j).length/\ax ((↑a1:Int)+(1:Int))/\∃(x':Nat),((t=t/\a2=a2/\(↑a1:Int)+(1:Int)=(↑x':Int))/\twX b t us=twX b t us/\((aA b.length fun (j:Nat)=>if j<a1 then nxW (ub us) (cw b) (cw t) a3 j else cw b j).set (↑a1:Int).toNat u4=aA b.length fun (j:Nat)=>if j<x' then nxW (ub us) (cw b) (cw t) a3 j else cw b j)/\(aA us.length fun
 (j:Nat)=>if j<a1 then nuW (ub us) t1 j else ub us j).set (↑a1:Int).toNat (decide ((0:Int)<(u1.getD (↑a1:Int).toNat (0:Rat)).num.sign))=aA us.length fun (j
 : Nat)=>if j<x' then nuW (ub us) t1 j else ub us j)/\x'<=b.length/\b.length-x'<b.length-a1 else ax ((↑a1:Int)+(1:Int))/\∃(x':Nat),((t=t /\
 a2=a2/\(↑a1:Int)+(1:Int)=(↑x':Int))/\twX b t us=twX b t us/\((aA b.length fun (j:Nat)=>if j<a1 then nxW (ub us) (cw b)
 (cw t) a3 j else cw b j)=aA b.length fun (j:Nat)=>if j<x' then nxW (ub us) (cw b) (cw t) a3 j else cw b j)/\(aA us.length fun (j:Nat)=>
 if j<a1 then nuW (ub us) t1 j else ub us j)=aA us.length fun (j:Nat)=>if j<x' then nuW (ub us) t1 j else ub us j)/\x'<=b.length/\b.length-x'<b.length-a1
 else ax (1:Int)/\(Sq BQ a3/\Sq BQ a4)/\decide (fS a3 a4=(0:Int))=decide (twX b t us=(1:Rat))/\(aA
 b.length fun (j:Nat)=>if j<a1 then nxW (ub us) (cw b) (cw t) a3 j else cw b j)=twB b t us/\(aA us.length fun (j:Nat)=>if j<a1 then nuW (ub us) t1
 j else ub us j)=twU b t us)
theorem aSq (b t:List Rat) (us:List Bool) (gh_:Nat->Value):awp (acp (cfg LJ3 []) 3 gh_) (aTC b t us) Tryz.f42.ntmps (Tryz.f42.body.getD .skip) (aRN Tryz.f42.results.toList (.k .bool (decide (twX b t us=1))) 0 5 2 1 (.arr 35 .q (twB b t us)) (.arr 4 .bool (twU b t us))) ⟨aHd 0 [.own 1000000 0 5,.k (.list .q) t,.own 1000001 0 1],[(dj,.arr 35 .q b),(axb,.arr 4 .bool us)]⟩=aN4 b t us:=by kernel_rfl
theorem aSr (b t:List Rat) (us:List Bool) (hg:TwG b t us):aN4 b t us:=by
 have h24:=hg.n24;have aU:=hg.lt;have hlu:=hg.lu;have hq:∀i,cw t i<0->Sq 2002000 (cw b i/(cw b i-cw t i)):=fun i h=>((hg.sb i).div ((hg.sb i).sub (hg.st i)) (by have:=hg.nn i;show cw b i-cw t i≠0;grind)).le (by omega);have hW:∀i,Sq 2002000 (stW (ub us) (cw b) (cw t) i):=fun i=>by
  induction i with
  | zero=>exact Sq.one (by omega)
  | succ k ih=>
   unfold stW;split
   ·rename_i h;split
    ·exact hq k h.2
    ·exact ih
   ·exact ih
 have hb:∀i,Sq BQ (cw b i):=fun i=>(hg.sb i).le (by unfold BQ;omega);have ht:∀i,Sq BQ (cw t i):=fun i=>(hg.st i).le (by unfold BQ;omega);have hWq:∀i,Sq BQ (stW (ub us) (cw b) (cw t) i):=fun i=>(hW i).le (by unfold BQ;omega);unfold aN4;dsimp only;refine ⟨by unfold ax;omega,fun _=>⟨0,⟨⟨rfl,rfl,rfl⟩,rfl,rfl,rfl⟩,fK _,fun i hi=>aH (fun h=>?_) fun h _=>?_⟩⟩
 ·have hi':i<b.length:=by omega
  have hiu:i<us.length:=by omega
  rw [show us.getD ((i:Nat):Int).toNat false=ub us i from rfl,show b.getD ((i:Nat):Int).toNat 0=cw b i from rfl,show t.getD ((i:Nat):Int).toNat 0=cw t i from rfl];refine ⟨⟨by omega,by omega⟩,hiu,?_⟩
  cases e:ub us i with
  | true=>
   refine ⟨⟨by omega,by omega⟩,ht i,aH (fun h2=>?_) fun h2=>?_⟩
   ·have hn:cw t i<0:=aO0.1 h2;exact ⟨⟨by omega,h⟩,hi',⟨by omega,h⟩,hi',⟨by omega,by omega⟩,⟨hb i,ht i⟩,⟨hb i,((hg.sb i).sub (hg.st i)).le (by unfold BQ;omega)⟩,⟨hWq i,(hq i hn).le (by unfold BQ;omega)⟩,by unfold ax;omega,i+1,⟨⟨rfl,rfl,rfl⟩,(aV ⟨e,hn⟩).symm,rfl,rfl⟩,hi',by omega⟩
   ·exact ⟨by unfold ax;omega,i+1,⟨⟨rfl,rfl,rfl⟩,(aI fun h3=>h2 (aO0.2 h3.2)).symm,rfl,rfl⟩,hi',by omega⟩
  | false=>exact ⟨by unfold ax;omega,i+1,⟨⟨rfl,rfl,rfl⟩,(aI fun h3=>by rw [e] at h3;cases h3.1).symm,rfl,rfl⟩,hi',by omega⟩
 ·have e:i=b.length:=by omega
  subst e;refine ⟨0,⟨⟨rfl,rfl,rfl⟩,rfl,vt 0 rfl fun j _=>(aI (gU j)).symm,vt false rfl fun j _=>(aI (gU j)).symm⟩,fK _,fun i hi=>aH (fun h=>?_) fun h=>?_⟩
  ·have hi':i<b.length:=by omega
   have hiu:i<us.length:=by omega
   rw [show ((i:Nat):Int).toNat=i from rfl,fW hiu,fW hi',aI (yo i),aI (yo i),mY hi',mY hiu,fW hi',aV rfl,show t.getD i 0=cw t i from rfl];simp only [mX];refine ⟨⟨by omega,by omega⟩,hiu,?_⟩;have hX:Sq 2002000 (twX b t us):=hW _;have hXq:Sq BQ (twX b t us):=hWq _;have d1:=(hg.st i).sub (hg.sb i);have d2:=hX.mul d1;have d3:=(hg.sb i).add d2;have ec:=aSc (b:=b) (t:=t) (us:=us) hlu
   cases e:ub us i with
   | true=>
    have ex:nxW (ub us) (cw b) (cw t) (twX b t us) i=cw b i+twX b t us*(cw t i-cw b i):=aV e;refine ⟨⟨by omega,h⟩,hi',⟨by omega,by omega⟩,⟨by omega,h⟩,hi',⟨ht i,hb i⟩,⟨hXq,d1.le (by unfold BQ;omega)⟩,⟨hb i,d2.le (by unfold BQ;omega)⟩,⟨by omega,h⟩,hi',⟨by omega,h⟩,hi',d3.le (by unfold BQ;omega),⟨by omega,by omega⟩,hiu,by unfold ax;omega,i+1,⟨⟨True.intro,True.intro,rfl⟩,True.intro,bE fun j _=>?_,bE fun j _=>?_⟩,hi',by omega⟩
    ·by_cases e2:j=i
     ·rw [aV e2,aV (by omega),e2,ex]
     ·rw [aI e2];by_cases e3:j<i
      ·rw [aV e3,aV (by omega)]
      ·rw [aI e3,aI (by omega)]
    ·by_cases e2:j=i
     ·rw [aV e2,aV (by omega),e2];unfold nuW;rw [aV e,ec,ex];exact yT.2 aUp
     ·rw [aI e2];by_cases e3:j<i
      ·rw [aV e3,aV (by omega)]
      ·rw [aI e3,aI (by omega)]
   | false=>
    have en:¬ub us i=true:=by rw [e];decide
    refine ⟨by unfold ax;omega,i+1,⟨⟨True.intro,True.intro,rfl⟩,True.intro,bE fun j _=>?_,bE fun j _=>?_⟩,hi',by omega⟩
    ·by_cases e2:j=i
     ·rw [aI (by omega),aV (by omega),e2];exact (aI en).symm
     ·by_cases e3:j<i
      ·rw [aV e3,aV (by omega)]
      ·rw [aI e3,aI (by omega)]
    ·by_cases e2:j=i
     ·rw [aI (by omega),aV (by omega),e2];exact (aI en).symm
     ·by_cases e3:j<i
      ·rw [aV e3,aV (by omega)]
      ·rw [aI e3,aI (by omega)]
  ·exact ⟨by unfold ax;omega,⟨hWq _,Sq.one (by unfold BQ;omega)⟩,yT.2 gz,bE fun j hj=>aV (by omega),bE fun j hj=>aV (by omega)⟩
theorem aSs:aDL (cfg []) aRC:=aW3 aV2 bp Tryz.func42 (by kernel_rfl) (by kernel_rfl) fun args ob bC g r ob' axe hc hg hf=>by
 replace hc:a2O args ob bC=some (g,r,ob',axe):=hc;unfold a2O at hc;split at hc
 ·injection hc with hc;injection hc with h1 hc;injection hc with h2 hc;injection hc with h3 h4;subst h1;subst h2;subst h3;subst h4;have hv:=aSr _ _ _ hg;exact ⟨by kernel_rfl,5,1,3,_,rfl,rfl,rfl,rfl,rfl,rfl,fun gh=>by cases aY (aSq _ _ _ gh) hv;assumption⟩
 ·cases hc
structure MgR (M:List (List Rat)) (is us:List Bool):Prop where
 right:aqJ M=true
 len:is.length=M.length
 n24:M.length<=24
 w3:al M<=3
 sM:∀i,SL 256 (M.getD i [])
 lu:us.length=M.length
 ind:aBb M.length (al M) (vMg M is) (ub is) fun i=>ub us i=true
 two:∀t,∃i,i<M.length/\ub is i=t/\ub us i=true
def zF2 (_ _:Nat):Rat:=0
def rkM (M:List (List Rat)) (us:List Bool):Nat:=rkU (ub us) M.length
theorem aTD (f:Nat->Rat) (n:Nat):apV (fun j=> -(f j)) n = -(apV f n):=by
 induction n with
 | zero=>show (0:Rat) = -0;grind
 | succ n ih=>
  show apV (fun j=> -(f j)) n + -(f n) = -(apV f n+f n)
  rw [ih];grind
theorem aV4 {M:List (List Rat)} {is:List Bool} {i k:Nat} (hi:(M.getD i []).length=al M):gmM (al M) (vMg M is) i k=if ub is i=ub is k then dW (M.getD i []) (M.getD k []) else -dW (M.getD i []) (M.getD k []):=by
 have e:dW (M.getD i []) (M.getD k [])=apV (fun j=>el M i j*el M k j) (al M):=by unfold dW;rw [hi];rfl
 rw [e];unfold gmM ipW vMg
 cases h1:ub is i with
 | true=>
  cases h2:ub is k with
  | true=>rw [aV rfl];exact uv fun j _=>by rw [aV rfl,aV rfl]
  | false=>rw [aI (by decide), <- aTD];exact uv fun j _=>by rw [aV rfl,aI (by decide)];grind
 | false=>
  cases h2:ub is k with
  | true=>rw [aI (by decide), <- aTD];exact uv fun j _=>by rw [aI (by decide),aV rfl];grind
  | false=>rw [aV rfl];exact uv fun j _=>by rw [aI (by decide),aI (by decide)];grind
theorem MgR.few {M:List (List Rat)} {is us:List Bool} (h:MgR M is us):rkM M us<=5:=by have h1:=aR8 h.ind;have h2:=h.w3;show rkU (ub us) M.length<=5;omega
theorem MgR.kk {M:List (List Rat)} {is us:List Bool} (h:MgR M is us) (a c:Nat):Sq 2000 (kkF (al M) (vMg M is) (ub is) (rU (ub us) M.length) (rkM M us) a c):=by
 obtain ⟨m1,m2,m3⟩:=ba h.right;have z0:Sq 2000 0:=Sq.zero _ (by omega);have z1:Sq 2000 1:=Sq.one (by omega);unfold kkF;by_cases h1:a<rkM M us
 ·rw [aV h1];by_cases h2:c<rkM M us
  ·rw [aV h2];have hr:rU (ub us) M.length a<M.length:=(aQm h1).1;have hl:(M.getD (rU (ub us) M.length a) []).length=al M:=m3 _ hr;rw [aV4 hl];have hd:Sq 2000 (dW (M.getD (rU (ub us) M.length a) []) (M.getD (rU (ub us) M.length c) [])):=(x4 (h.sM _) (h.sM _)).le (by have:=gA (256+256+1) (show (M.getD (rU (ub us) M.length a) []).length<=3 by rw [hl];exact h.w3);omega);split
   ·exact hd
   ·exact hd.neg
  ·rw [aI h2];split
   ·exact z1.neg
   ·exact z0
 ·rw [aI h1];split
  ·split
   ·exact z1
   ·exact z0
  ·exact z0
theorem MgR.sol {M:List (List Rat)} {is us:List Bool} (h:MgR M is us):aj4 (aG (rkM M us+2) (rkM M us+2) (kkF (al M) (vMg M is) (ub is) (rU (ub us) M.length) (rkM M us))) (aA (rkM M us+2) (kkB (rkM M us))):=by
 have h5:=h.few;refine ⟨2000,by omega,fun a=>?_,SL.mk (fun c _=>?_) (by omega),?_⟩
 ·by_cases ha:a<rkM M us+2
  ·rw [na ha];exact SL.mk (fun c _=>h.kk a c) (by omega)
  ·rw [mZ (by rw [mkM_len];omega)];exact SL.nil (by omega)
 ·unfold kkB;split
  ·exact Sq.zero _ (by omega)
  ·exact Sq.one (by omega)
 ·rw [tM (by omega)];have h6:5^(rkM M us+2+1)<=5^8:=j3 (by omega) (by omega);have h7:(5:Nat)^8=390625:=by decide
  unfold BQ;omega
noncomputable def LJ4:List az:=alF::aVm::aa5::V9::[]
theorem aXC:bd LJ4:=⟨akE,aUE,V5,Qc,trivial⟩
noncomputable def a1e:List AV->Option (Option Prop×AV×List Ob)
 | [.k (.list .bool) us,.k (.list (.list .q)) M,.k (.list .bool) is]=>some (some (MgR M is us),.own 0 0 5,[.arr 35 .q (aoQ M.length (al M) (vMg M is) (ub is) us)])
 | _=>none
noncomputable def aUG:az:=⟨41,false,a1e⟩
noncomputable def aWq (us:List Bool) (M:List (List Rat)) (is:List Bool):bk:=⟨fun key_=>match key_ with | 23=>14 | 24=>8 | 25=>13 | 30=>6 | 31=>6 | _=>0,fun key_=>match key_ with
 | 3=>some (⟨Nat,fun i=>[(0,.k (.list .bool) us),(1,.k (.list (.list .q)) M),(2,.k (.list .bool) is),(7,.own 7 0 1),(25,.k (.int .i64) ((M.length:Nat):Int)),(26,.k (.int .i64) ((i:Nat):Int))],
 fun i=>[(7,.arr 3 (.int .i64) (K5 (usR (ub us) i)))],
 fun _ i=>i<=M.length,fun i=>M.length-i⟩)
 | 12=>some (⟨Nat,fun i=>[(1,.k (.list (.list .q)) M),(2,.k (.list .bool) is),(7,.own 7 0 1),(9,.k (.int .i64) ((rkM M us:Nat):Int)),(10,.own 42 0 1),(11,.own 45 0 5),(47,.k (.int .i64) ((rkM M us+2:Nat):Int)),(48,.k (.int .i64) ((i:Nat):Int))],
 fun i=>[(7,.arr 3 (.int .i64) (K5 (usR (ub us) M.length))),(42,.bc 28 35 .q (bh (rkM M us+2) i) (bD i (rkM M us+2) zF2)),(45,.arr 35 .q (List.replicate (rkM M us+2) 0))],
 fun _ i=>i<=rkM M us+2,fun i=>rkM M us+2-i⟩)
 | 18=>some (⟨Nat,fun i=>[(1,.k (.list (.list .q)) M),(2,.k (.list .bool) is),(7,.own 7 0 1),(9,.k (.int .i64) ((rkM M us:Nat):Int)),(10,.own 42 0 1),(11,.own 45 0 5),(67,.own 7 0 1),(68,.k (.int .i64) ((rkM M us:Nat):Int)),(69,.k (.int .i64) ((i:Nat):Int))],
 fun i=>[(7,.arr 3 (.int .i64) (K5 (usR (ub us) M.length))),(42,.bc 28 35 .q (bh (rkM M us+2) (rkM M us+2)) (bD (rkM M us+2) (rkM M us+2) (kkP (al M) (vMg M is) (ub is) (rU (ub us) M.length) (rkM M us) i))),(45,.arr 35 .q (aA (rkM M us+2) (kkB (rkM M us))))],
 fun _ i=>i<=rkM M us,fun i=>rkM M us-i⟩)
 | 21=>some (⟨Nat×Nat,fun p=>[(1,.k (.list (.list .q)) M),(2,.k (.list .bool) is),(7,.own 7 0 1),(9,.k (.int .i64) ((rkM M us:Nat):Int)),(10,.own 42 0 1),(11,.own 45 0 5),(13,.k (.int .i64) ((p.2:Nat):Int)),(14,.k (.int .i64) ((rU (ub us) M.length p.2:Nat):Int)),(67,.own 7 0 1),(68,.k (.int .i64) ((rkM M us:Nat):Int)),(69,.k (.int .i64) ((p.2:Nat):Int)),(74,.own 7 0 1),(75,.k (.int .i64) ((rkM M us:Nat):Int)),(76,.k (.int .i64) ((p.1:Nat):Int))],
 fun p=>[(7,.arr 3 (.int .i64) (K5 (usR (ub us) M.length))),(42,.bc 28 35 .q (bh (rkM M us+2) (rkM M us+2)) (bD (rkM M us+2) (rkM M us+2) (kkQ (al M) (vMg M is) (ub is) (rU (ub us) M.length) (rkM M us) p.2 p.1))),(45,.arr 35 .q (aA (rkM M us+2) (kkB (rkM M us))))],
 fun q p=>p.2=q.2/\p.2<rkM M us/\p.1<=rkM M us,fun p=>rkM M us-p.1⟩)
 | 36=>some (⟨Nat,fun i=>[(18,.k (.list .q) (aer (aG (rkM M us+2) (rkM M us+2) (kkF (al M) (vMg M is) (ub is) (rU (ub us) M.length) (rkM M us))) (aA (rkM M us+2) (kkB (rkM M us))))),(21,.own 151 0 5),(152,.own 7 0 1),(153,.k (.int .i64) ((rkM M us:Nat):Int)),(154,.k (.int .i64) ((i:Nat):Int))],
 fun i=>[(7,.arr 3 (.int .i64) (K5 (usR (ub us) M.length))),(151,.arr 35 .q (aA M.length fun t=>if rkU (ub us) t<i then aOm M.length (al M) (vMg M is) (ub is) (ub us) t else 0))],
 fun _ i=>i<=rkM M us,fun i=>rkM M us-i⟩) | _=>none,nR,nU⟩
def aOk (us:List Bool) (M:List (List Rat)) (is:List Bool):Prop:=let a9:=(↑M.length:Int);let aa:=vMg M is;let ab:=al M;let ad:=rkM M us;let ae:=(↑(1:Int):Rat);let af:=(↑is.length:Int);
 let t1:=rkM M us+(2:Nat);
 let t2:=(↑ad:Int);
 let t3:=usR (ub us) M.length;
 let t4:=rU (ub us) M.length;
 let t5:=aG t1 t1 (kkF ab aa (ub is) t4 ad);
 let t6:=t2+(1:Int);
 let t7:=(bh t1 t1).getD t6.toNat (0:Nat);
 let t8:=kkB ad;
 let t9:=(bh t1 t1).getD t2.toNat (0:Nat);
 let t10:=(↑(-1:Int):Rat);
 let t11:=(↑(bh t1 t1).length:Int);
 let t12:=(List.replicate t1 (0:Rat)).set t2.toNat ae;
 let t13:=(↑(K5 t3).length:Int);
 M.length<=aB->∃(x0:Nat),((us=us/\M=M/\is=is/\a9=a9/\(0:Int)=(↑x0:Int))/\K5 (usR (ub us) x0)=[])/\x0<=M.length
 /\ ∀(x:Nat),x<=M.length->bif decide ((↑x:Int)<a9) then ((0:Int)<=(↑x:Int)/\(↑x:Int)<(↑us.length:Int))/\bif us.getD (↑x:Int).toNat
 false then (K5 (usR (ub us) x)).length+[(↑x:Int)].length<=aB/\ax ((↑x:Int)+(1:Int))/\∃(x':Nat),((us=us/\M=M/\is=is/\a9 =
 a9/\(↑x:Int)+(1:Int)=(↑x':Int))/\(K5 (usR (ub us) x)).append [(↑x:Int)]=K5 (usR (ub us) x'))/\x'<=M.length/\M.length-x'<M.length -
 x else ax ((↑x:Int)+(1:Int))/\∃(x':Nat),((us=us/\M=M/\is=is/\a9=a9/\(↑x:Int)+(1:Int)=(↑x':Int))/\K5
 (usR (ub us) x)=K5 (usR (ub us) x'))/\x'<=M.length/\M.length-x'<M.length-x else (K5 (usR (ub us) x)).length<=aB->ax ((↑(K5 (usR (ub us) x)).length :
 Int)+(2:Int))/\((0:Int)<=(↑(K5 (usR (ub us) x)).length:Int)+(2:Int)/\(↑(K5 (usR (ub us) x)).length:Int)+(2:Int)<=(↑(K5 (usR (ub us) x)).length :
 Int)+(2:Int)/\(↑(K5 (usR (ub us) x)).length:Int)+(2:Int)<=(1099511627776:Int))/\ax ((↑(K5 (usR (ub us) x)).length:Int)+(2:Int))/\((0:Int) <=
 (↑(K5 (usR (ub us) x)).length:Int)+(2:Int)/\(↑(K5 (usR (ub us) x)).length:Int)+(2:Int)<=(↑(K5 (usR (ub us) x)).length:Int)+(2:Int)/\(↑(K5 (usR
 (ub us) x)).length:Int)+(2:Int)<=(1099511627776:Int))/\((List.replicate ((↑(K5 (usR (ub us) x)).length:Int)+(2:Int)).toNat (0:Nat)).length<=aB->∃
 (a0:Nat),((M=M/\is=is/\(↑(K5 (usR (ub us) x)).length:Int)=t2/\(↑(List.replicate ((↑(K5 (usR (ub us) x)).length:Int)+(2:Int)).toNat (0:Nat)).length
 : Int)=(↑t1:Int)/\(0:Int)=(↑a0:Int))/\K5 (usR (ub us) x)=K5 t3/\(List.replicate ((↑(K5 (usR (ub us) x)).length:Int)+(2:Int)).toNat (0:Nat) =
 bh t1 a0/\[[]]=bD a0 t1 zF2)/\List.replicate ((↑(K5 (usR (ub us) x)).length:Int)+(2:Int)).toNat (0:Rat)=List.replicate t1 (0:Rat))/\a0<=rkM M us +
 (2:Nat)/\∀(a1:Nat),a1<=rkM M us+(2:Nat)->bif decide ((↑a1:Int)<(↑t1:Int)) then ax (t2+(2:Int))/\((0:Int)<=t2+(2:Int)/\t2+(2:Int)<=t2 +
 (2:Int)/\t2+(2:Int)<=(1099511627776:Int))/\((0:Int)<=(↑a1:Int)/\(↑a1:Int)<(↑(bh t1 a1).length:Int))/\((↑a1:Int).toNat<(bh t1 a1).length /\
 (bD a1 t1 zF2).length<(bD a1 t1 zF2++[List.replicate (t2+(2:Int)).toNat (0:Rat)]).length)/\ax ((↑a1:Int)+(1:Int))/\∃(x':Nat),((M=M/\is=is
 /\ t2=t2/\(↑t1:Int)=(↑t1:Int)/\(↑a1:Int)+(1:Int)=(↑x':Int))/\K5 t3=K5 t3/\((bh t1 a1).set (↑a1:Int).toNat ((bD a1 t1 zF2).length)=bh t1 x'
 /\ bD a1 t1 zF2++[List.replicate (t2+(2:Int)).toNat (0:Rat)]=bD x' t1 zF2)/\List.replicate t1 (0:Rat)=List.replicate t1 (0:Rat))/\x'<=rkM M us+(2
 : Nat)/\rkM M us+(2:Nat)-x'<rkM M us+(2:Nat)-a1 else ax t6/\ax (1:Int)/\ax (1:Int)/\((0:Int)<=t2/\t2<(↑(List.replicate t1 (0 :
 Rat)).length:Int))/\t2.toNat<(List.replicate t1 (0:Rat)).length/\((0:Int)<=t2+(1:Int)/\t2+(1:Int)<(↑t12.length:Int))/\t6.toNat<t12.length /\
 ((K5 t3).length<=aB->∃(a2:Nat),((M=M/\is=is/\t2=t2/\t13=t2/\(0:Int)=(↑a2:Int))/\K5 t3=K5 t3/\(bh t1 a1=bh t1 t1/\bD a1 t1 zF2 =
 bD t1 t1 (kkP ab aa (ub is) t4 ad a2))/\t12.set t6.toNat ae=aA t1 t8)/\a2<=rkM M us/\∀(a3:Nat),a3<=rkM M us->bif
 decide ((↑a3:Int)<t2) then ((0:Int)<=(↑a3:Int)/\(↑a3:Int)<t13)/\(↑a3:Int).toNat<(K5 t3).length/\((K5 t3).length<=aB->∃(x0b:Nat×Nat),let a8:=x0b.2;let ag:=bh t1 t1;let ah:=K5 t3;((M=M /\
 is=is/\t2=t2/\(↑a3:Int)=(↑a8:Int)/\ah.getD (↑a3:Int).toNat (0:Int)=(↑(rU (ub us) M.length a8):Int)/\t2=t2/\(↑a3:Int)=(↑a8:Int)
 /\ t13=t2/\(0:Int)=(↑x0b.1:Int))/\K5 t3=K5 t3/\(bh t1 t1=bh t1 t1/\bD t1 t1 (kkP ab aa (ub is) t4 ad a3)=bD t1 t1 (kkQ
 ab aa (ub is) t4 ad a8 x0b.1))/\aA t1 t8=aA t1 t8)/\(a8=a8/\a8<rkM M us/\x0b.1<=rkM M us)/\∀(y1:Nat×Nat),
let a7:=y1.1;let a6:=y1.2;let ai:=(↑a6:Int);let aj:=(↑a7:Int);   let u5:=ah.getD aj.toNat (0:Int);let u4:=(↑(rU (ub us) M.length a6):Int);let u2:=ag.getD ai.toNat (0:Nat);
 let u1:=bD t1 t1 (kkQ ab aa (ub is) t4 ad a6 a7);
 let u3:=(u1.getD u2 []).set aj.toNat (dW (M.getD u4.toNat []) (M.getD u5.toNat []));a6=a8/\a6<rkM M us/\a7<=rkM M us->bif decide (aj<t2) then ((0:Int)<=aj/\aj<t13)/\aj.toNat<ah.length/\((0:Int)<=ai/\ai<t11)/\ai.toNat<ag.length/\((0:Int)<=u4/\u4<a9)/\((0:Int)<=ah.getD aj.toNat (0:Int)/\ah.getD aj.toNat (0:Int)<a9)/\((M.getD u4.toNat []).length=(M.getD u5.toNat []).length/\lM (M.getD u4.toNat []) (M.getD u5.toNat []))/\(u2<u1.length
 /\ (0:Int)<=aj/\aj<(↑(u1.getD u2 []).length:Int))/\(u2<u1.length/\aj.toNat<(u1.getD u2 []).length)/\((0:Int)<=u4/\u4 <
 af)/\((0:Int)<=ah.getD aj.toNat (0:Int)/\ah.getD aj.toNat (0:Int)<af)/\bif !is.getD u4.toNat
 false == is.getD u5.toNat false then ((0:Int)<=ai/\ai<t11)/\ai.toNat<ag.length/\((0:Int)<=ai/\ai<t11)/\ai.toNat<ag.length/\(u2<(u1.set u2 u3).length/\(0:Int)<=aj/\aj<(↑((u1.set u2 u3).getD u2 []).length :
 Int))/\(u2<(u1.set u2 u3).length/\aj.toNat<((u1.set u2 u3).getD u2 []).length)/\Sq BQ (((u1.set u2 u3).getD u2 []).getD aj.toNat (0:Rat)) /\
 (u2<(u1.set u2 u3).length/\(0:Int)<=aj/\aj<(↑((u1.set u2 u3).getD u2 []).length:Int))/\(u2<(u1.set u2 u3).length/\aj.toNat
 < ((u1.set u2 u3).getD u2 []).length)/\ax (aj+(1:Int))/\∃(x'b:Nat×Nat),((M=M/\is=is/\t2=t2/\ai=(↑x'b.2:Int)/\u4=(↑(rU
 (ub us) M.length x'b.2):Int)/\t2=t2/\ai=(↑x'b.2:Int)/\t2=t2/\aj+(1:Int)=(↑x'b.1:Int))/\K5 t3=K5 t3/\(bh t1 t1=bh
 t1 t1/\(u1.set u2 u3).set u2 (((u1.set u2 u3).getD u2 []).set aj.toNat (-((u1.set u2 u3).getD u2 []).getD aj.toNat (0:Rat)))=bD t1 t1 (kkQ
 ab aa (ub is) t4 ad x'b.2 x'b.1))/\aA t1 t8=aA t1 t8)/\(x'b.2=a8/\x'b.2<rkM M us/\x'b.1<=rkM M us)/\rkM M us-x'b.1<rkM M us -
 a7 else ax (aj+(1:Int))/\∃(x'b:Nat×Nat),((M=M/\is=is/\t2=t2/\ai=(↑x'b.2:Int)/\u4=(↑(rU (ub us) M.length x'b.2):Int)
 /\ t2=t2/\ai=(↑x'b.2:Int)/\t2=t2/\aj+(1:Int)=(↑x'b.1:Int))/\K5 t3=K5 t3/\(bh t1 t1=bh t1 t1/\u1.set u2 u3=bD t1
 t1 (kkQ ab aa (ub is) t4 ad x'b.2 x'b.1))/\aA t1 t8=aA t1 t8)/\(x'b.2=a8/\x'b.2<rkM M us/\x'b.1<=rkM M us)/\rkM M us-x'b.1<rkM
 M us-a7 else ((0:Int)<=u4/\u4<af)/\bif is.getD u4.toNat false then ax t6/\((0:Int)<=ai/\ai<t11)/\ai.toNat<ag.length/\ax (-1:Int)/\(u2<u1.length/\(0:Int)<=t2+(1:Int)/\t2+(1:Int)<(↑(u1.getD u2 []).length:Int))/\(u2<u1.length /\
 t6.toNat<(u1.getD u2 []).length)/\((0:Int)<=t2+(1:Int)/\t2+(1:Int)<t11)/\t6.toNat<ag.length/\ax (1:Int)/\(t7<(u1.set u2 ((u1.getD u2
 []).set t6.toNat t10)).length/\(0:Int)<=ai/\ai<(↑((u1.set u2 ((u1.getD u2 []).set t6.toNat t10)).getD (t7) []).length:Int))/\((t7) <
 (u1.set u2 ((u1.getD u2 []).set t6.toNat t10)).length/\ai.toNat<((u1.set u2 ((u1.getD u2 []).set t6.toNat t10)).getD ((t7)) []).length)/\ax (ai+(1:Int))/\∃(x':Nat),((M=M/\is=is/\t2=t2/\t2=t2/\ai+(1:Int)=(↑x':Int))/\K5 t3=K5 t3/\(bh t1 t1=bh t1 t1/\(u1.set
 u2 ((u1.getD u2 []).set t6.toNat t10)).set t7 (((u1.set u2 ((u1.getD u2 []).set t6.toNat t10)).getD t7 []).set ai.toNat ae)=bD t1 t1 (kkP
 ab aa (ub is) t4 ad x'))/\aA t1 t8=aA t1 t8)/\x'<=rkM M us/\rkM M us-x'<rkM M us-a3 else ((0:Int)<=ai/\ai <
 t11)/\ai.toNat<ag.length/\ax (-1:Int)/\(u2<u1.length/\(0:Int)<=t2/\t2<(↑(u1.getD u2 []).length:Int))/\(u2<u1.length/\t2.toNat
 < (u1.getD u2 []).length)/\((0:Int)<=t2/\t2<t11)/\t2.toNat<ag.length/\ax (1:Int)/\(t9<(u1.set u2 ((u1.getD u2 []).set t2.toNat t10)).length /\
 (0:Int)<=ai/\ai<(↑((u1.set u2 ((u1.getD u2 []).set t2.toNat t10)).getD (t9) []).length:Int))/\((t9)<(u1.set u2 ((u1.getD u2 []).set
 t2.toNat t10)).length/\ai.toNat<((u1.set u2 ((u1.getD u2 []).set t2.toNat t10)).getD ((t9)) []).length)/\ax (ai+(1:Int))/\∃(x':Nat),
 ((M=M/\is=is/\t2=t2/\t2=t2/\ai+(1:Int)=(↑x':Int))/\K5 t3=K5 t3/\(bh t1 t1=bh t1 t1/\(u1.set u2 ((u1.getD u2 []).set t2.toNat
 t10)).set t9 (((u1.set u2 ((u1.getD u2 []).set t2.toNat t10)).getD t9 []).set ai.toNat ae)=bD t1 t1 (kkP ab aa (ub is) t4
 ad x'))/\aA t1 t8=aA t1 t8)/\x'<=rkM M us/\rkM M us-x'<rkM M us-a3) else (okS (List.map (fun (p:Nat)=>(bD t1 t1 (kkP ab aa (ub
 is) t4 ad a3)).getD p []) (bh t1 t1)) (aA t1 t8)=true->aj4 (List.map (fun (p:Nat)=>(bD t1 t1 (kkP ab aa (ub is) t4 ad a3)).getD
 p []) (bh t1 t1)) (aA t1 t8))/\(M.length<=aB->((0:Int)<=a9/\a9<=a9/\a9<=(1099511627776:Int)) /\
 ((K5 t3).length<=aB->∃(a4:Nat),((acU (List.map (fun (p:Nat)=>(bD t1 t1 (kkP ab aa (ub is) t4 ad a3)).getD p []) (bh t1 t1)) (aA
 t1 t8)=aer t5 (aA t1 t8)/\t13=t2/\(0:Int)=(↑a4:Int))/\K5 t3=K5 t3/\List.replicate a9.toNat (0:Rat)=aA M.length fun (t:Nat)=>if
 rkU (ub us) t<a4 then aOm M.length ab aa (ub is) (ub us) t else (0:Rat))/\a4<=rkM M us/\∀(a5:Nat),a5<=rkM M us->bif decide ((↑a5:Int)<t2)
 then ((0:Int)<=(↑a5:Int)/\(↑a5:Int)<t13)/\(↑a5:Int).toNat<(K5 t3).length/\((0:Int)<=(↑a5:Int)/\(↑a5:Int)<(↑(aer t5 (aA t1 t8)).length:Int)) /\
 ((0:Int)<=(K5 t3).getD (↑a5:Int).toNat (0:Int)/\(K5 t3).getD (↑a5:Int).toNat (0:Int)<(↑(aA M.length fun (t:Nat)=>if rkU (ub us) t<a5 then aOm
 M.length ab aa (ub is) (ub us) t else (0:Rat)).length:Int))/\((K5 t3).getD (↑a5:Int).toNat (0:Int)).toNat<(aA M.length fun (t:Nat)=>if rkU
 (ub us) t<a5 then aOm M.length ab aa (ub is) (ub us) t else (0:Rat)).length/\ax ((↑a5:Int)+(1:Int))/\∃(x':Nat),((aer t5 (aA t1 t8) =
 aer t5 (aA t1 t8)/\t2=t2/\(↑a5:Int)+(1:Int)=(↑x':Int))/\K5 t3=K5 t3/\(aA M.length fun (t:Nat)=>if rkU (ub us) t<a5 then aOm M.length ab
 aa (ub is) (ub us) t else (0:Rat)).set ((K5 t3).getD (↑a5:Int).toNat (0:Int)).toNat ((aer t5 (aA t1 t8)).getD (↑a5:Int).toNat (0:Rat))=aA M.length
 fun (t:Nat)=>if rkU (ub us) t<x' then aOm M.length ab aa (ub is) (ub us) t else (0:Rat))/\x'<=rkM M us/\rkM M us-x'<rkM M us-a5 else (aA
 M.length fun (t:Nat)=>if rkU (ub us) t<a5 then aOm M.length ab aa (ub is) (ub us) t else (0:Rat))=aoQ M.length ab aa (ub is)
 us))))
theorem aVY (us:List Bool) (M:List (List Rat)) (is:List Bool):awp (cfg LJ4 []) (aWq us M is) Tryz.f41.ntmps (Tryz.f41.body.getD .skip) (jj Tryz.f41.results.toList (.own 0 0 5) 151 (.arr 35 .q (aoQ M.length (al M) (vMg M is) (ub is) us))) ⟨aHd 0 [.k (.list .bool) us,.k (.list (.list .q)) M,.k (.list .bool) is],[]⟩=aOk us M is:=by kernel_rfl
theorem aV1 (us:List Bool) (M:List (List Rat)) (is:List Bool) (hg:MgR M is us):aOk us M is:=by
 obtain ⟨m1,m2,m3⟩:=ba hg.right;have h24:=hg.n24;have hl:=hg.len;have hlu:=hg.lu;have h5:=hg.few;have eL:∀i,(K5 (usR (ub us) i)).length=rkU (ub us) i:=fun i=>adq _;have eM:rkU (ub us) M.length=rkM M us:=rfl;have eR:∀k,k<rkM M us->(K5 (usR (ub us) M.length)).getD ((k:Nat):Int).toNat 0=((rU (ub us) M.length k:Nat):Int):=fun k hk=>afF hk;have hr:∀k,k<rkM M us->rU (ub us) M.length k<M.length:=fun k hk=>(aQm hk).1;have oL:(bh (rkM M us+2) (rkM M us+2)).length=rkM M us+2:=pL _ _;have oA:∀{i:Nat},i<rkM M us+2->(bh (rkM M us+2) (rkM M us+2)).getD i 0=i+1:=fun hi=>avQ hi;unfold aOk;dsimp only;refine fun _=>⟨0,⟨⟨rfl,rfl,rfl,rfl,rfl⟩,rfl⟩,fK _,fun i hi=>aH (fun h=>?_) fun h _=>?_⟩
 ·have hi':i<M.length:=by omega
  rw [show us.getD ((i:Nat):Int).toNat false=ub us i from rfl];refine ⟨⟨by omega,by omega⟩,?_⟩
  cases e:ub us i with
  | true=>
   refine ⟨?_,by unfold ax;omega,i+1,⟨⟨rfl,rfl,rfl,rfl,rfl⟩,?_⟩,hi',by omega⟩
   ·rw [eL];have:=aSb (ub us) i;show rkU (ub us) i+1<=aB;unfold aB;omega
   ·rw [aKC e,ahH];rfl
  | false=>exact ⟨by unfold ax;omega,i+1,⟨⟨rfl,rfl,rfl,rfl,rfl⟩,by rw [aPd (by rw [e];decide)]⟩,hi',by omega⟩
 ·have e:i=M.length:=by omega
  subst e;have e2:(((rkM M us:Nat):Int)+2).toNat=rkM M us+2:=by omega
  have e1:(((rkM M us:Nat):Int)+1).toNat=rkM M us+1:=by omega
  have i2:ax (((rkM M us:Nat):Int)+2):=by unfold ax;omega
  have i1:ax (((rkM M us:Nat):Int)+1):=by unfold ax;omega
  rw [eL,eM,e2,e1,show ((rkM M us:Nat):Int).toNat=rkM M us from rfl];refine ⟨i2,⟨by omega,by omega,by omega⟩,i2,⟨by omega,by omega,by omega⟩,fun _=>⟨0,⟨⟨rfl,rfl,rfl,?_,rfl⟩,rfl,⟨x8 _,rfl⟩,rfl⟩,fK _,fun i hi=>aH (fun h=>?_) fun h=>?_⟩⟩
  ·rw [tH]
  ·have hi':i<rkM M us+2:=by omega
   refine ⟨i2,⟨by omega,by omega,by omega⟩,⟨by omega,by rw [pL];exact h⟩,⟨by rw [pL];exact hi',by simp⟩,by unfold ax;omega,i+1,⟨⟨rfl,rfl,rfl,rfl,rfl⟩,rfl,⟨?_,?_⟩,rfl⟩,by omega,by omega⟩
   ·rw [K3];exact As hi'
   ·unfold bD aG;rw [tI,iO,CO];rfl
  ·have e:i=rkM M us+2:=by omega
   subst e;rw [tD,tH];refine ⟨i1,by unfold ax;omega,by unfold ax;omega,⟨by omega,by omega⟩,by omega,⟨by omega,by omega⟩,by omega,fun _=>⟨0,⟨⟨rfl,rfl,rfl,rfl,rfl⟩,rfl,⟨rfl,apI fun a c _ _=>aW0 a c⟩,aXk _⟩,fK _,fun i hi=>aH (fun h=>?_) fun h=>?_⟩⟩
   ·have hi':i<rkM M us:=by omega
    refine ⟨⟨by omega,h⟩,hi',fun _=>⟨(0,i),⟨⟨rfl,rfl,rfl,rfl,eR i hi',rfl,rfl,rfl,rfl⟩,rfl,⟨rfl,apI fun a c _ _=>aW1 i a c⟩,rfl⟩,⟨rfl,hi',fK _⟩,fun ⟨k,i3⟩ ⟨e,h2,hk⟩=>?_⟩⟩;dsimp only at e h2 hk ⊢;subst e;have Ps:=hr i3 h2;have hl1:(M.getD (rU (ub us) M.length i3) []).length=al M:=m3 _ Ps;have n3:i3<rkM M us+2:=by omega
    rw [show ((i3:Nat):Int).toNat=i3 from rfl,show ((rU (ub us) M.length i3:Nat):Int).toNat=rU (ub us) M.length i3 from rfl,oA n3,asV n3,oL];refine aH (fun h4=>?_) fun h4=>?_
    ·have sF:k<rkM M us:=by omega
     have nk:k<rkM M us+2:=by omega
     have hrk:=hr k sF;have pX:(M.getD (rU (ub us) M.length k) []).length=al M:=m3 _ hrk;have hG:=aV4 (M:=M) (is:=is) (k:=rU (ub us) M.length k) hl1;have hD:lM (M.getD (rU (ub us) M.length i3) []) (M.getD (rU (ub us) M.length k) []):=aSg (hg.sM _) (hg.sM _) (by rw [hl1];exact hg.w3) (by omega);have hS:Sq 700000000 (dW (M.getD (rU (ub us) M.length i3) []) (M.getD (rU (ub us) M.length k) [])):=aVi (hg.sM _) (hg.sM _) (by rw [hl1];exact hg.w3) (by omega);rw [eR k sF,show ((k:Nat):Int).toNat=k from rfl,show ((rU (ub us) M.length k:Nat):Int).toNat=rU (ub us) M.length k from rfl,asW n3 nk,asV n3,fW nk,aV ⟨rfl,rfl⟩,asW n3 nk,K3,K3,mX,mX];refine ⟨⟨by omega,h4⟩,sF,⟨by omega,by omega⟩,n3,⟨by omega,by omega⟩,⟨by omega,by omega⟩,⟨by rw [hl1,pX],hD⟩,⟨by omega,by omega,by omega⟩,⟨by omega,nk⟩,⟨by omega,by omega⟩,⟨by omega,by omega⟩,?_⟩;change bif !(ub is (rU (ub us) M.length i3) == ub is (rU (ub us) M.length k)) then _ else _
     cases e:(ub is (rU (ub us) M.length i3) == ub is (rU (ub us) M.length k)) with
     | false=>
      rw [show (!false)=true from rfl,iR];rw [aI fun e3=>by rw [e3,beq_self_eq_true] at e;cases e] at hG;refine ⟨⟨by omega,by omega⟩,n3,⟨by omega,by omega⟩,n3,⟨by omega,by omega,by omega⟩,⟨by omega,nk⟩,hS.le (by unfold BQ;omega),⟨by omega,by omega,by omega⟩,⟨by omega,nk⟩,by unfold ax;omega,(k+1,i3),⟨⟨rfl,rfl,rfl,rfl,rfl,rfl,rfl,rfl,rfl⟩,rfl,⟨rfl,apI fun a c _ _=>?_⟩,rfl⟩,⟨rfl,h2,sF⟩,by show _-(k+1)<_-k;omega⟩;dsimp only;rw [<-aWs,hG];by_cases h6:a=i3/\c=k
      ·rw [aV h6,aV h6]
      ·rw [aI h6,aI h6,aI h6]
     | true=>rw [show (!true)=false from rfl,sC];rw [aV (KM e)] at hG;refine ⟨by unfold ax;omega,(k+1,i3),⟨⟨rfl,rfl,rfl,rfl,rfl,rfl,rfl,rfl,rfl⟩,rfl,⟨rfl,apI fun a c _ _=>?_⟩,rfl⟩,⟨rfl,h2,sF⟩,by show _-(k+1)<_-k;omega⟩;dsimp only;rw [<-aWs,hG]
    ·have ek:k=rkM M us:=by omega
     subst ek;have nm:rkM M us<rkM M us+2:=by omega
     have nn:rkM M us+1<rkM M us+2:=by omega
     have cR:∀a c,_:=fun a c=>aW2 (w:=al M) (v:=vMg M is) (s:=ub is) (r:=rU (ub us) M.length) (m:=rkM M us) (i:=i3) (a:=a) (c:=c) h2;rw [show is.getD (rU (ub us) M.length i3) false=ub is (rU (ub us) M.length i3) from rfl,oA nn,oA nm,asW n3 nn,asW n3 nm,asV nn,asV nm,asW nn n3,asW nm n3];simp only [K3,mX];refine ⟨⟨by omega,by omega⟩,?_⟩
     cases e:ub is (rU (ub us) M.length i3) with
     | true=>rw [e,show sd1 true=1 from rfl] at cR;exact ⟨i1,⟨by omega,by omega⟩,n3,by unfold ax;omega,⟨by omega,by omega,by omega⟩,⟨by omega,nn⟩,⟨by omega,by omega⟩,nn,by unfold ax;omega,⟨by omega,by omega,by omega⟩,⟨by omega,n3⟩,by unfold ax;omega,i3+1,⟨⟨True.intro,True.intro,True.intro,True.intro,rfl⟩,True.intro,⟨True.intro,apI fun a c _ _=>cR a c⟩,True.intro⟩,by omega,by omega⟩
     | false=>rw [e,show sd1 false=0 from rfl] at cR;exact ⟨⟨by omega,by omega⟩,n3,by unfold ax;omega,⟨by omega,by omega,by omega⟩,⟨by omega,nm⟩,⟨by omega,by omega⟩,nm,by unfold ax;omega,⟨by omega,by omega,by omega⟩,⟨by omega,n3⟩,by unfold ax;omega,i3+1,⟨⟨True.intro,True.intro,True.intro,True.intro,rfl⟩,True.intro,⟨True.intro,apI fun a c _ _=>cR a c⟩,True.intro⟩,by omega,by omega⟩
   ·have e:i=rkM M us:=by omega
    subst e;have eK:aG (rkM M us+2) (rkM M us+2) (kkP (al M) (vMg M is) (ub is) (rU (ub us) M.length) (rkM M us) (rkM M us))=aG (rkM M us+2) (rkM M us+2) (kkF (al M) (vMg M is) (ub is) (rU (ub us) M.length) (rkM M us)):=CQ (aG _ _) (funext fun a=>funext fun c=>aXj a c);rw [tK,eK];obtain ⟨b1,b2,b3⟩:=aXl hg.ind hg.two;have aXE:∀t,¬ub us t=true->aOm M.length (al M) (vMg M is) (ub is) (ub us) t=0:=fun t h=>aI h
    refine ⟨fun _=>hg.sol,fun _=>⟨⟨by omega,by omega,by omega⟩,fun _=>⟨0,⟨⟨(akT b1 b2).1,rfl,rfl⟩,rfl,(iO _ _).trans (bE fun t _=>(aI (gU _)).symm)⟩,fK _,fun i hi=>aH (fun h=>?_) fun h=>?_⟩⟩⟩
    ·have hi':i<rkM M us:=by omega
     have Ps:=hr i hi';obtain ⟨u1,u2,u3⟩:=aQm (U:=ub us) (n:=M.length) hi';have b4:aer (aG (rkM M us+2) (rkM M us+2) (kkF (al M) (vMg M is) (ub is) (rU (ub us) M.length) (rkM M us))) (aA (rkM M us+2) (kkB (rkM M us)))=aA (rkM M us+2) (ak8 (rkM M us+2) (rkM M us+2) (kkF (al M) (vMg M is) (ub is) (rU (ub us) M.length) (rkM M us)) (kkB (rkM M us))):=b3;rw [eR i hi',b4,mX,mX,show ((i:Nat):Int).toNat=i from rfl,fW (show i<rkM M us+2 by omega),show ((rU (ub us) M.length i:Nat):Int).toNat=rU (ub us) M.length i from rfl,mY Ps];refine ⟨⟨by omega,h⟩,hi',⟨by omega,by omega⟩,⟨by omega,by omega⟩,Ps,by unfold ax;omega,i+1,⟨⟨rfl,rfl,rfl⟩,rfl,bE fun t ht=>?_⟩,by omega,by omega⟩;by_cases e3:t=rU (ub us) M.length i
     ·have e4:rkU (ub us) t=i:=by rw [e3];exact u3
      have e5:aOm M.length (al M) (vMg M is) (ub is) (ub us) t=ak8 (rkM M us+2) (rkM M us+2) (kkF (al M) (vMg M is) (ub is) (rU (ub us) M.length) (rkM M us)) (kkB (rkM M us)) i:=by rw [<-e4];exact aV (by rw [e3];exact u2)
      rw [aV e3,aV (by omega),e5]
     ·rw [aI e3];by_cases e4:rkU (ub us) t<i
      ·rw [aV e4,aV (by omega)]
      ·rw [aI e4];by_cases e5:rkU (ub us) t<i+1
       ·rw [aV e5];refine (aXE t fun h8=>e3 ?_).symm;have h9:=(aR7 ht h8).2;rw [show rkU (ub us) t=i by omega] at h9;exact h9.symm
       ·rw [aI e5]
    ·refine bE fun t ht=>?_;by_cases e3:ub us t=true
     ·have:=(aR7 ht e3).1;exact aV (by show rkU (ub us) t<i;have:rkU (ub us) M.length=rkM M us:=rfl;omega)
     ·rw [aXE t e3];split <;> rfl
theorem aV3:aqn (cfg []) aUG:=oY aXC bp Tryz.func41 (by kernel_rfl) (by kernel_rfl) rfl fun args g r hn hc hg hf=>by
 replace hc:a1e args=some (g,r,hn):=hc;unfold a1e at hc;split at hc
 ·cases hc;have hv:=aV1 _ _ _ hg
  cases aY (aVY _ _ _) hv;exact ⟨by kernel_rfl,_,151,_,rfl,rfl,rfl,by assumption⟩
 ·cases hc
def fsI:List Bool->Bool->Nat
 | [],_=>0
 | x::xs,t=>if x=t then 0 else fsI xs t+1
theorem aSt:∀{is:List Bool} {t:Bool},(∃i,i<is.length/\ub is i=t)->fsI is t<is.length/\ub is (fsI is t)=t/\∀j,j<fsI is t->ub is j≠t
 | [],t,⟨i,hi,_⟩=>absurd hi (gU i)
 | x::xs,t,⟨i,hi,h⟩=>by
  unfold fsI;by_cases e:x=t
  ·rw [aV e];exact ⟨Ax _,e,fun j hj=>absurd hj (gU j)⟩
  ·rw [aI e]
   cases i with
   | zero=>exact absurd h e
   | succ i=>
    obtain ⟨a1,a2,a3⟩:=aSt (is:=xs) (t:=t) ⟨i,Nat.lt_of_succ_lt_succ hi,h⟩;refine ⟨uA a1,a2,fun j hj=>?_⟩
    cases j with
    | zero=>exact e
    | succ j=>exact a3 j (Nat.lt_of_succ_lt_succ hj)
structure NrG (M:List (List Rat)) (is:List Bool):Prop where
 right:aqJ M=true
 len:is.length=M.length
 n24:M.length<=24
 w3:al M<=3
 sM:∀i,SL 256 (M.getD i [])
 aZF:∀i j,∃z:Int,z.natAbs<1024/\el M i j*12=(z:Rat)
 two:∀t,∃i,i<M.length/\ub is i=t
section
variable {M:List (List Rat)} {is:List Bool}
theorem NrG.gv (h:NrG M is) (i j:Nat):∃z:Int,z.natAbs<1024/\vMg M is i j*12=(z:Rat):=by
 obtain ⟨z,h1,h2⟩:=h.aZF i j;unfold vMg;split
 ·exact ⟨z,h1,h2⟩
 ·exact ⟨-z,by omega,by rw [KS, <- h2];grind⟩
theorem NrG.gm (h:NrG M is) (i k:Nat):∃z:Int,z.natAbs<2^22/\gmM (al M) (vMg M is) i k*144=(z:Rat):=by
 have key:∀m,m<=3->∃z:Int,z.natAbs<=m*1048576/\apV (fun j=>vMg M is i j*vMg M is k j) m*144=(z:Rat):=fun m=>by
  induction m with
  | zero=>intro _;exact ⟨0,cM _,by show (0:Rat)*144=_;rw [x7];rfl⟩
  | succ m ih=>
   intro hm;obtain ⟨z,h1,h2⟩:=ih (by omega);obtain ⟨a,a1,a2⟩:=h.gv i m;obtain ⟨b,b1,b2⟩:=h.gv k m;refine ⟨z+a*b,?_,?_⟩
   ·have h3:(a*b).natAbs<=1023*1024:=by rw [y4];exact yh (by omega) (by omega)
    omega
   ·show (apV _ m+vMg M is i m*vMg M is k m)*144=_;rw [Rat.intCast_add,Hh, <- h2, <- a2, <- b2];grind
 obtain ⟨z,h1,h2⟩:=key (al M) h.w3;have h3:=eJ 1048576 h.w3;exact ⟨z,by omega,h2⟩
theorem NrG.bal (h:NrG M is) {us:List Bool} (hi:aBb M.length (al M) (vMg M is) (ub is) fun i=>ub us i=true) (hs:∀t,∃i,i<M.length/\ub is i=t/\ub us i=true):SL 183 (aoQ M.length (al M) (vMg M is) (ub is) us):=SL.mk (fun i n0=>by
 rcases aUy (k:=22) (D:=144) (by grind) (by have:=h.w3;omega) hi hs (h.gm) ⟨144,by decide,rfl⟩ n0 with h1 | ⟨z,y,h1,h2,h3,h4⟩
 ·rw [h1];exact Sq.zero _ (by omega)
 ·rw [h4];have hp:2^((al M+4)*(22+4)+1)<=2^183:=j3 (by omega) (by have:=h.w3;omega);exact Sq.ratio (fO (fi h1 hp)) (fO (fi h2 hp)) h3) (by omega)
theorem aXV {n:Nat} {b:List Rat} (hb:b.length=n):ub (suL n (cw b))=fun i=>decide (0<cw b i):=aSa fun i hi=>iQ (by rw [aPg (by omega)];grind)
theorem NrG.hd (h:NrG M is) {b:List Rat} (hb:b.length=M.length) (H:HdW M.length (al M) (vMg M is) (ub is) (cw b)):SL 183 b:=by
 obtain ⟨lm,hk⟩:=H.kk;have e:=aXV hb;have hi:aBb M.length (al M) (vMg M is) (ub is) fun i=>ub (suL M.length (cw b)) i=true:=H.ind.sub fun i _ hu=>by rw [e] at hu;exact AA hu
 have hs:∀t,∃i,i<M.length/\ub is i=t/\ub (suL M.length (cw b)) i=true:=aIw (b:=cw b) ⟨H.nn,fun i _ hp=>by rw [e];exact pK hp,hk.sum,hi⟩;obtain ⟨mu,Dz⟩:=aUi hi hs;have hk3:KkW M.length (al M) (vMg M is) (ub is) (fun i=>ub (suL M.length (cw b)) i=true) (cw b) lm:=⟨fun i hi hn=>hk.off i hi fun hp=>hn (by rw [e];exact pK hp),hk.sum,fun i hi hu=>hk.kk i hi (by rw [e] at hu;exact AA hu)⟩
 intro i;rcases bX i M.length with n0 | n0
 ·have h1:=Dz.uniq hi hk3 i n0;have h2:=h.bal hi hs i;have h3:(aoQ M.length (al M) (vMg M is) (ub is) (suL M.length (cw b))).getD i 0=aOm M.length (al M) (vMg M is) (ub is) (ub (suL M.length (cw b))) i:=fW n0 0;rw [h3, <- h1] at h2;exact h2
 ·rw [mZ (by omega)];exact Sq.zero _ (by omega)
def szB:Nat->Nat
 | 0=>900
 | k+1=>4*szB k+400
theorem aTE (k:Nat):∀d,szB k<=szB (k+d)
 | 0=>cM _
 | d+1=>by have:=aTE k d;show _<=4*szB (k+d)+400;omega
theorem aLq {k m:Nat} (h:k<=m):szB k<=szB m:=by obtain ⟨d,rfl⟩:=Gz h;exact aTE k d
theorem aVq {b t:List Rat} {us:List Bool} {s:Nat} (h1:1<=s) (nn:∀i,0<=cw b i) (hb:SL s b) (ht:SL 183 t):SL (4*s+400) (twB b t us):=by
 have hq:∀i,cw t i<0->Sq (2*s+184) (cw b i/(cw b i-cw t i)):=fun i h=>((hb i).div ((hb i).sub (ht i)) (by have:=nn i;show cw b i-cw t i≠0;grind)).le (by omega);have hW:∀i,Sq (2*s+184) (stW (ub us) (cw b) (cw t) i):=fun i=>by
  induction i with
  | zero=>exact Sq.one (by omega)
  | succ k ih=>
   unfold stW;split
   ·rename_i h;split
    ·exact hq k h.2
    ·exact ih
   ·exact ih
 refine SL.mk (fun i _=>?_) (by omega);unfold nxW;split
 ·exact ((hb i).add ((hW b.length).mul ((ht i).sub (hb i)))).le (by omega)
 ·exact (hb i).le (by omega)
structure InS (M:List (List Rat)) (is us:List Bool) (b:List Rat):Prop where
 st:InL M.length (al M) (vMg M is) (ub is) us b
 sz:SL (szB (5-rkU (ub us) M.length)) b
theorem InS.few {us:List Bool} {b:List Rat} (h:InS M is us b) (g:NrG M is):rkU (ub us) M.length<=5:=by have h1:=aR8 h.st.st.ind;have h2:=g.w3;omega
theorem InS.mr {us:List Bool} {b:List Rat} (h:InS M is us b) (g:NrG M is):MgR M is us:=⟨g.right,g.len,g.n24,g.w3,g.sM,h.st.lu,h.st.st.ind,aIw h.st.st⟩
theorem InS.tw {us:List Bool} {b:List Rat} (h:InS M is us b) (g:NrG M is):TwG b (aoQ M.length (al M) (vMg M is) (ub is) us) us:=by
 have h1:=h.st.pos;have h2:szB (5-rkU (ub us) M.length)<=szB 4:=aLq (by omega);have h3:szB 4=264400:=by decide
 exact ⟨by unfold aoQ;rw [mX,h.st.lb],by rw [h.st.lu,h.st.lb],by rw [h.st.lb];exact g.n24,h.st.st.nn,h.sz.le (by omega),(g.bal h.st.st.ind (aIw h.st.st)).le (by omega)⟩
theorem InS.next {us:List Bool} {b:List Rat} (h:InS M is us b) (g:NrG M is) (h1:twX b (aoQ M.length (al M) (vMg M is) (ub is) us) us≠1) :
  InS M is (twU b (aoQ M.length (al M) (vMg M is) (ub is) us) us) (twB b (aoQ M.length (al M) (vMg M is) (ub is) us) us) /\
  rkU (ub (twU b (aoQ M.length (al M) (vMg M is) (ub is) us) us)) M.length<rkU (ub us) M.length /\
  aDk M.length (al M) (vMg M is) (ub is) M.length (twU b (aoQ M.length (al M) (vMg M is) (ub is) us) us) (twB b (aoQ M.length (al M) (vMg M is) (ub is) us) us)=aDk M.length (al M) (vMg M is) (ub is) M.length us b:=by
 obtain ⟨a1,a2⟩:=h.st.next h1
 have h5:=h.few g
 have hp:=h.st.pos
 have hle:=aSb (ub us) M.length
 refine ⟨⟨a1,(aVq (s:=szB (5-rkU (ub us) M.length)) ?_ h.st.st.nn h.sz (g.bal h.st.st.ind (aIw h.st.st))).le ?_⟩,a2,?_⟩
 ·exact lN (by decide:1<=szB 0) (aLq (fK _))
 ·show szB (5-rkU (ub us) M.length+1)<=_
  exact aLq (by omega)
 ·obtain ⟨m,hm⟩:∃m,M.length=m+1:=⟨M.length-1,by omega⟩
  have e:aDk M.length (al M) (vMg M is) (ub is) (m+1) us b=aDk M.length (al M) (vMg M is) (ub is) m (twU b (aoQ M.length (al M) (vMg M is) (ub is) us) us) (twB b (aoQ M.length (al M) (vMg M is) (ub is) us) us):=by
   conv=>lhs;unfold aDk
   rw [aI h1]
  have e2:=aRx m M.length a1 (by omega) (by omega)
  rw [<-e2, <- e, <- hm]
theorem InS.last {us:List Bool} {b:List Rat} (h:InS M is us b) (h1:twX b (aoQ M.length (al M) (vMg M is) (ub is) us) us=1) :
  twU b (aoQ M.length (al M) (vMg M is) (ub is) us) us=suL M.length (cw (twB b (aoQ M.length (al M) (vMg M is) (ub is) us) us)) /\
  aDk M.length (al M) (vMg M is) (ub is) M.length us b=twB b (aoQ M.length (al M) (vMg M is) (ub is) us) us:=by
 have hp:=h.st.pos
 have hle:=aSb (ub us) M.length
 constructor
 ·unfold twU suL
  rw [h.st.lu]
  refine bE fun i hi=>?_
  unfold nuW
  split
  ·rfl
  ·rename_i hu
   have e1:cw (twB b (aoQ M.length (al M) (vMg M is) (ub is) us) us) i=0:=by rw [aSc (by rw [h.st.lu,h.st.lb])];unfold nxW;rw [aI hu];exact h.st.st.off hi hu
   rw [e1]
   cases h3:ub us i with
   | true=>exact absurd h3 hu
   | false=>exact (iQ (by grind)).symm
 ·obtain ⟨m,hm⟩:∃m,M.length=m+1:=⟨M.length-1,by omega⟩
  have e:aDk M.length (al M) (vMg M is) (ub is) (m+1) us b=twB b (aoQ M.length (al M) (vMg M is) (ub is) us) us:=by
   conv=>lhs;unfold aDk
   rw [aV h1]
  rw [<-hm] at e
  exact e
def stP (is:List Bool) (n r:Nat):List Rat:=aA n fun i=>if (0<r/\i=fsI is true)\/(1<r/\i=fsI is false) then 1 else 0
def stU (is:List Bool) (n r:Nat):List Bool:=aA n fun i=>decide ((0<r/\i=fsI is true)\/(1<r/\i=fsI is false))
theorem aVr (is:List Bool) (n:Nat):stP is n 2=stB n (fsI is false) (fsI is true):=bE fun i _=>by
 by_cases h:i=fsI is false\/i=fsI is true
 ·rw [aV h,aV (h.elim (fun e=>.inr ⟨by omega,e⟩) fun e=>.inl ⟨by omega,e⟩)]
 ·rw [aI h,aI fun h2=>h (h2.elim (fun e=>.inr e.2) fun e=>.inl e.2)]
theorem aVs (is:List Bool) (n:Nat):stU is n 2=suL n (cw (stP is n 2)):=bE fun i hi=>by
 have e:cw (stP is n 2) i=if (0<2/\i=fsI is true)\/(1<2/\i=fsI is false) then 1 else 0:=aU5 hi
 rw [e];by_cases h:(0<2/\i=fsI is true)\/(1<2/\i=fsI is false)
 ·rw [aV h,pK h];exact (pK (by grind)).symm
 ·rw [aI h,iQ h];exact (iQ (by grind)).symm
def sdB (r:Nat):Bool:=([true,false]).getD r false
theorem aQD {r:Nat} (hr:r<2) (i:Nat):((0<r+1/\i=fsI is true)\/(1<r+1/\i=fsI is false))↔i=fsI is (sdB r)\/((0<r/\i=fsI is true)\/(1<r/\i=fsI is false)):=by
 rcases bX r 1 with h | h
 ·have e:r=0:=by omega
  subst e;have e2:sdB 0=true:=rfl;rw [e2];omega
 ·have e:r=1:=by omega
  subst e;have e2:sdB 1=false:=rfl;rw [e2];omega
noncomputable def akv (M:List (List Rat)) (is:List Bool):List Rat:=aNd M.length (al M) (vMg M is) (ub is) (stB M.length (fsI is false) (fsI is true))
structure OuS (M:List (List Rat)) (is:List Bool) (b:List Rat):Prop where
 lb:b.length=M.length
 hd:HdW M.length (al M) (vMg M is) (ub is) (cw b)
 en:aNd M.length (al M) (vMg M is) (ub is) b=akv M is
theorem NrG.start (h:NrG M is):OuS M is (stP is M.length 2):=by have hl:=h.len;obtain ⟨a1,a2,_⟩:=aSt (is:=is) (t:=false) (by rw [hl];exact h.two false);obtain ⟨b1,b2,_⟩:=aSt (is:=is) (t:=true) (by rw [hl];exact h.two true);rw [aVr];exact ⟨mX ..,aXS (by omega) (by omega) a2 b2,rfl⟩
theorem OuS.mg {b:List Rat} (h:OuS M is b) (g:NrG M is):MgG M is b:=⟨g.right,g.len,g.n24,g.w3,g.sM,h.lb,(g.hd h.lb h.hd).le (by unfold GB;omega)⟩
theorem OuS.fin {b:List Rat} (h:OuS M is b) (h1:aL1 M is b<0):b=akv M is:=by
 unfold aL1 at h1
 cases e:aVf M is b with
 | none=>rw [<-h.en];exact (aUz e).symm
 | some r=>rw [e] at h1;exact absurd h1 (by show ¬((r:Nat):Int)<0;omega)
theorem OuS.go {b:List Rat} (h:OuS M is b) (g:NrG M is) (h1:¬aL1 M is b<0):∃r:Nat,aL1 M is b=(r:Int)/\r<M.length /\
  InS M is (aBx M.length b r) b /\
  OuS M is (aDk M.length (al M) (vMg M is) (ub is) M.length (aBx M.length b r) b) /\
  muW M.length (al M) (vMg M is) (ub is) (cw (aDk M.length (al M) (vMg M is) (ub is) M.length (aBx M.length b r) b))<muW M.length (al M) (vMg M is) (ub is) (cw b):=by
 unfold aL1 at h1 ⊢
 cases e:aVf M is b with
 | none=>rw [e] at h1;exact absurd (by decide:(-1:Int)<0) h1
 | some r=>
  have e':aNc M.length (al M) (vMg M is) (ub is) (cw b) M.length=some r:=e
  obtain ⟨c1,c2,c3⟩:=aLh h.lb h.hd e'
  obtain ⟨d1,_⟩:=aUm h.lb h.hd e'
  refine ⟨r,rfl,(aNU e').1,⟨d1,(g.hd h.lb h.hd).le (lN (by decide:183<=szB 0) (aLq (fK _)))⟩,⟨c2,c1,?_⟩,c3⟩
  rw [<-h.en]
  exact (aUA h.lb h.hd e').symm
theorem aVt {n r:Nat} {b:List Rat} (h:r<n):(suL n (cw b)).set r true=aBx n b r:=by
 unfold suL aBx;rw [mY h];refine bE fun j _=>?_
 by_cases e:j=r
 ·rw [aV e,pK e,Bool.or_true]
 ·rw [aI e,iQ e,Bool.or_false]
end
noncomputable def aVu:List awe:=aRC::[]
theorem aVv:aA7 aVu:=⟨aSs,trivial⟩
noncomputable def LJ5:List az:=aVN::aUG::aa5::[]
theorem aV5:bd LJ5:=⟨aWo,aV3,V5,trivial⟩
noncomputable def a1I:List AV->Option (Option Prop×AV×List Ob)
 | [.k (.list (.list .q)) M,.k (.list .bool) is]=>some (some (NrG M is),.k (.list .q) (akv M is),[])
 | _=>none
noncomputable def aQS:az:=⟨23,false,a1I⟩
noncomputable def aSu (M:List (List Rat)) (is:List Bool):bk:=⟨nU,fun key_=>match key_ with
 | 4=>some (⟨Nat,fun r=>[(0,.k (.list (.list .q)) M),(1,.k (.list .bool) is),(5,.own 14 0 5),(6,.own 17 0 1),(18,.own 18 0 1),(19,.k (.int .i64) (2:Int)),(20,.k (.int .i64) ((r:Nat):Int))],
 fun r=>[(14,.arr 35 .q (stP is M.length r)),(17,.arr 4 .bool (stU is M.length r)),(18,.arr 4 .bool [true,false])],
 fun _ r=>r<=2,fun r=>2-r⟩)
 | 7=>some (⟨Nat×Nat,fun p=>[(0,.k (.list (.list .q)) M),(1,.k (.list .bool) is),(5,.own 14 0 5),(6,.own 17 0 1),(8,.k .bool (sdB p.2)),(18,.own 18 0 1),(19,.k (.int .i64) (2:Int)),(20,.k (.int .i64) ((p.2:Nat):Int)),(25,.k (.int .i64) ((M.length:Nat):Int)),(26,.k (.int .i64) ((p.1:Nat):Int))],
 fun p=>[(14,.arr 35 .q (stP is M.length p.2)),(17,.arr 4 .bool (stU is M.length p.2)),(18,.arr 4 .bool [true,false])],
 fun q p=>p.2=q.2/\p.2<2/\p.1<=M.length/\∀j,j<p.1->ub is j≠sdB p.2,fun p=>M.length-p.1⟩)
 | 13=>some (⟨List Rat,fun _=>[(0,.k (.list (.list .q)) M),(1,.k (.list .bool) is),(5,.own 14 0 5),(6,.own 17 0 1)],
 fun b=>[(14,.arr 35 .q b),(17,.arr 4 .bool (suL M.length (cw b)))],
 fun _ b=>OuS M is b,fun b=>muW M.length (al M) (vMg M is) (ub is) (cw b)⟩)
 | 17=>some (⟨List Bool×List Rat,fun _=>[(0,.k (.list (.list .q)) M),(1,.k (.list .bool) is),(5,.own 14 0 5),(6,.own 17 0 1)],
 fun p=>[(14,.arr 35 .q p.2),(17,.arr 4 .bool p.1)],
 fun q p=>InS M is p.1 p.2/\aDk M.length (al M) (vMg M is) (ub is) M.length p.1 p.2=aDk M.length (al M) (vMg M is) (ub is) M.length q.1 q.2,fun p=>rkU (ub p.1) M.length⟩) | _=>none,nR,nU⟩
def aMA (M:List (List Rat)) (is:List Bool):Prop:=let aa:=(↑M.length:Int);let ab:=vMg M is;let ad:=al M;let ae:=(↑[true,false].length:Int);M.length<=aB->((0:Int)<=aa/\aa<=aa/\aa<=(1099511627776:Int))/\(M.length<=aB->((0:Int) <=
 aa/\aa<=aa/\aa<=(1099511627776:Int))/\([true,false].length<=aB->∃(x0:Nat),((M=M/\is=is /\
 ae=(2:Int)/\(0:Int)=(↑x0:Int))/\List.replicate aa.toNat (0:Rat)=stP is M.length x0/\List.replicate aa.toNat false=stU is M.length x0/\[true,false]=[true,false])/\x0<=(2:Nat)/\∀(x:Nat),x<=(2:Nat)->bif decide ((↑x:Int)<(2:Int)) then ((0:Int)
 <= (↑x:Int)/\(↑x:Int)<ae)/\(↑x:Int).toNat<[true,false].length/\(M.length<=aB->∃(x0b:Nat×Nat),let a9:=x0b.2;((M=M/\is=is/\[true,
 false].getD (↑x:Int).toNat false=sdB a9/\(2:Int)=(2:Int)/\(↑x:Int)=(↑a9:Int)/\aa=aa/\(0:Int)=(↑x0b.1:Int))
 /\ stP is M.length x=stP is M.length a9/\stU is M.length x=stU is M.length a9/\[true,false]=[true,false])/\(a9=a9/\a9<(2:Nat)/\x0b.1 <=
 M.length/\∀(j:Nat),j<x0b.1->ub is j≠sdB a9)/\∀(y1:Nat×Nat),let a8:=y1.1;let a7:=y1.2;let af:=(↑a8:Int);let ag:=stP is M.length a7;let ah:=stU is M.length a7;let ai:=(↑a7:Int);(a7=a9/\a7<(2:Nat)/\a8<=M.length/\∀(j:Nat),j<a8->ub is j≠sdB
 a7)->bif decide (af<aa) then ((0:Int)<=af/\af<(↑is.length:Int))/\bif is.getD af.toNat false ==
 sdB a7 then ax (1:Int)/\((0:Int)<=af/\af<(↑ag.length:Int))/\af.toNat<ag.length
 /\ ((0:Int)<=af/\af<(↑ah.length:Int))/\af.toNat<ah.length/\ax (ai+(1 :
 Int))/\∃(x':Nat),((M=M/\is=is/\(2:Int)=(2:Int)/\ai+(1:Int)=(↑x':Int))/\ag.set af.toNat (↑(1:Int) :
 Rat)=stP is M.length x'/\ah.set af.toNat true=stU is M.length x'/\[true,false]=[true,false])/\x'<=(2:Nat)/\(2:Nat)-x' <
 (2:Nat)-x else ax (af+(1:Int))/\∃(x'b:Nat×Nat),((M=M/\is=is/\sdB a7=sdB x'b.2/\(2:Int)=(2:Int)/\ai=(↑x'b.2 :
 Int)/\aa=aa/\af+(1:Int)=(↑x'b.1:Int))/\stP is M.length a7=stP is M.length x'b.2/\stU is M.length a7=stU is
 M.length x'b.2/\[true,false]=[true,false])/\(x'b.2=a9/\x'b.2<(2:Nat)/\x'b.1<=M.length/\∀(j:Nat),j<x'b.1->ub is j≠sdB x'b.2)/\M.length-x'b.1
 < M.length-a8 else ax (ai+(1:Int))/\∃(x':Nat),((M=M/\is=is/\(2:Int)=(2:Int)/\ai+(1:Int)=(↑x':Int))/\stP is
 M.length a7=stP is M.length x'/\stU is M.length a7=stU is M.length x'/\[true,false]=[true,false])/\x'<=(2:Nat)/\(2:Nat)-x'<(2:Nat)-x) else ∃
 (x0c:List Rat),((M=M/\is=is)/\stP is M.length x=x0c/\stU is M.length x=suL M.length (cw x0c))/\OuS M is x0c/\∀(xb:List Rat),OuS M is xb->MgG M is xb
 /\ bif decide (aL1 M is xb<(0:Int)) then xb=akv M is else ((0:Int)<=aL1 M is xb/\aL1 M is xb<(↑(suL M.length (cw xb)).length:Int))/\(aL1 M is
 xb).toNat<(suL M.length (cw xb)).length/\∃(aJT:List Bool×List Rat),let a6:=aJT.1;let a5:=aJT.2;((M=M/\is=is)/\xb=a5/\(suL M.length (cw xb)).set (aL1 M is xb).toNat true =
 a6)/\(InS M is a6 a5/\aDk M.length ad ab (ub is) M.length a6 a5=aDk M.length ad ab (ub is) M.length a6 a5)
 /\ ∀(y1b:List Bool×List Rat),let a4:=y1b.2;let a0:=y1b.1;let u1:=aoQ M.length ad ab (ub is) a0;InS M is a0 a4/\aDk M.length ad ab (ub is) M.length
 a0 a4=aDk M.length ad ab (ub is) M.length a6 a5->MgR M is a0/\TwG a4 u1 a0/\bif decide (twX a4 u1 a0=(1:Rat)) then ∃
 (x'c:List Rat),((M=M/\is=is)/\twB a4 u1 a0=x'c/\twU a4 u1 a0=suL M.length (cw x'c))/\OuS M is x'c/\muW M.length ad ab (ub is)
 (cw x'c)<muW M.length ad ab (ub is) (cw xb) else ∃(x'd:List Bool×List Rat),((M=M/\is=is)/\twB a4 u1 a0=x'd.2/\twU a4 u1 a0 =
 x'd.1)/\(InS M is x'd.1 x'd.2/\aDk M.length ad ab (ub is) M.length x'd.1 x'd.2=aDk M.length ad ab (ub is) M.length a6 a5) /\
 rkU (ub x'd.1) M.length<rkU (ub a0) M.length))
theorem aRr (M:List (List Rat)) (is:List Bool):awp (cfg LJ5 [] aVu) (aSu M is) Tryz.f23.ntmps (Tryz.f23.body.getD .skip) (MS (cfg LJ5 [] aVu) Tryz.f23.results.toList (.k (.list .q) (akv M is))) ⟨aHd 0 [.k (.list (.list .q)) M,.k (.list .bool) is],[]⟩=aMA M is:=by kernel_rfl
theorem aRs (M:List (List Rat)) (is:List Bool) (hg:NrG M is):aMA M is:=by
 have hl:=hg.len;have h24:=hg.n24;have hF:∀t,fsI is t<M.length/\ub is (fsI is t)=t/\∀j,j<fsI is t->ub is j≠t:=fun t=>by have:=aSt (is:=is) (t:=t) (by rw [hl];exact hg.two t);rw [hl] at this;exact this
 unfold aMA;refine fun _=>⟨⟨by omega,by omega,by omega⟩,fun _=>⟨⟨by omega,by omega,by omega⟩,fun _=>⟨0,⟨⟨rfl,rfl,rfl,rfl⟩,?_,?_,rfl⟩,fK _,fun r hr=>aH (fun h=>?_) fun h=>?_⟩⟩⟩
 ·exact (iO _ _).trans (bE fun i _=>(aI fun h=>h.elim (fun e=>absurd e.1 (by omega)) fun e=>absurd e.1 (by omega)).symm)
 ·exact (iO _ _).trans (bE fun i _=>(iQ fun h=>h.elim (fun e=>absurd e.1 (by omega)) fun e=>absurd e.1 (by omega)).symm)
 ·have nY:r<2:=by omega
  refine ⟨⟨by omega,h⟩,nY,fun _=>⟨(0,r),⟨⟨rfl,rfl,rfl,rfl,rfl,rfl,rfl⟩,rfl,rfl,rfl⟩,⟨rfl,nY,fK _,fun j hj=>absurd hj (gU j)⟩,fun ⟨i,r2⟩ ⟨e,h2,hi,bB⟩=>?_⟩⟩;dsimp only at e h2 hi bB ⊢;subst e;obtain ⟨a1,a2,a3⟩:=hF (sdB r2);refine aH (fun h3=>?_) fun h3=>?_
  ·have hi':i<M.length:=by omega
   refine ⟨⟨by omega,by omega⟩,?_⟩;change bif (ub is i == sdB r2) then _ else _
   cases e:(ub is i == sdB r2) with
   | true=>
    have ei:fsI is (sdB r2)=i:=by
     rcases uX (fsI is (sdB r2)) i with h4 | h4 | h4
     ·exact absurd a2 (bB _ h4)
     ·exact h4
     ·exact absurd (KM e) (a3 i h4)
    have lP:(stP is M.length r2).length=M.length:=mX ..;have lU:(stU is M.length r2).length=M.length:=mX ..;rw [lP,lU,show ((i:Nat):Int).toNat=i from rfl];refine ⟨by unfold ax;omega,⟨by omega,h3⟩,hi',⟨by omega,h3⟩,hi',by unfold ax;omega,r2+1,⟨⟨rfl,rfl,rfl,rfl⟩,?_,?_,rfl⟩,by omega,by omega⟩
    ·unfold stP;rw [mY hi'];refine bE fun j _=>?_
     by_cases e2:j=i
     ·rw [aV e2,aV ((aQD h2 j).2 (.inl (by rw [ei];exact e2)))];rfl
     ·rw [aI e2];by_cases e3:(0<r2/\j=fsI is true)\/(1<r2/\j=fsI is false)
      ·rw [aV e3,aV ((aQD h2 j).2 (.inr e3))]
      ·rw [aI e3,aI fun e4=>((aQD h2 j).1 e4).elim (fun e5=>e2 (by rw [ei] at e5;exact e5)) e3]
    ·unfold stU;rw [mY hi'];refine bE fun j _=>?_
     by_cases e2:j=i
     ·rw [aV e2,pK ((aQD h2 j).2 (.inl (by rw [ei];exact e2)))]
     ·rw [aI e2];by_cases e3:(0<r2/\j=fsI is true)\/(1<r2/\j=fsI is false)
      ·rw [pK e3,pK ((aQD h2 j).2 (.inr e3))]
      ·rw [iQ e3,iQ fun e4=>((aQD h2 j).1 e4).elim (fun e5=>e2 (by rw [ei] at e5;exact e5)) e3]
   | false=>
    refine ⟨by unfold ax;omega,(i+1,r2),⟨⟨rfl,rfl,rfl,rfl,rfl,rfl,rfl⟩,rfl,rfl,rfl⟩,⟨rfl,h2,hi',fun j hj=>?_⟩,by show _-(i+1)<_-i;omega⟩;rcases bX j i with h4 | h4
    ·exact bB j h4
    ·rw [show j=i by have:j<i+1:=hj;omega];intro h5;have h6:(ub is i == sdB r2)=true:=by rw [show ub is i=sdB r2 from h5];exact beq_self_eq_true _
     rw [h6] at e;cases e
  ·exact absurd a2 (bB _ (by omega))
 ·have e:r=2:=by omega
  subst e;refine ⟨stP is M.length 2,⟨⟨rfl,rfl⟩,rfl,aVs is M.length⟩,hg.start,fun b hb=>⟨hb.mg hg,aH (fun h=>hb.fin h) fun h=>?_⟩⟩;obtain ⟨k,e,hk,hI,hO,hm⟩:=hb.go hg h;have eS:(suL M.length (cw b)).length=M.length:=mX ..;rw [e,eS,show ((k:Nat):Int).toNat=k from rfl,aVt hk];refine ⟨⟨by omega,by omega⟩,hk,(aBx M.length b k,b),⟨⟨rfl,rfl⟩,rfl,rfl⟩,⟨hI,rfl⟩,fun ⟨us,c⟩=>?_⟩;dsimp only;intro ⟨hS,hE⟩;refine ⟨hS.mr hg,hS.tw hg,aH (fun h1=>?_) fun h1=>?_⟩
  ·obtain ⟨l1,l2⟩:=hS.last h1;refine ⟨_,⟨⟨rfl,rfl⟩,rfl,l1⟩,?_,?_⟩
   ·rw [<-l2,hE];exact hO
   ·rw [<-l2,hE];exact hm
  ·obtain ⟨n1,n2,n3⟩:=hS.next hg h1;exact ⟨(_,_),⟨⟨rfl,rfl⟩,rfl,rfl⟩,⟨n1,n3.trans hE⟩,n2⟩
theorem aRt:aqn (cfg []) aQS:=aYv aV5 bp aVv Tryz.func23 (by kernel_rfl) (by kernel_rfl) rfl (by kernel_rfl) fun args g r hn hc hg hf=>by
 replace hc:a1I args=some (g,r,hn):=hc;unfold a1I at hc;split at hc
 ·cases hc;have hv:=aRs _ _ hg
  cases aY (aRr _ _) hv;exact ⟨rfl,by kernel_rfl,_,by assumption⟩
 ·cases hc
end Go.Proofs.YtefbmebfkfeefaaGreatDoor.AM
