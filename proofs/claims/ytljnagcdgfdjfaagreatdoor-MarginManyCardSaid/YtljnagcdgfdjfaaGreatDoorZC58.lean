/- so many rows there may be, and no more; errors come in their order. MarginMany, by abstract execution. (Printed by vc.py.) margin.Fit, Same; chapter 32's known example; the document's errors; by abstract execution. (Printed by vc.py.) The document's lines of least squares, by abstract execution. (Printed by vc.py.) The document's determinants and inverses, by abstract execution. (Printed by vc.py.) elim.Det: determinants by elimination, by abstract execution. (Printed by vc.py.) The document's reduced forms, kernels, solutions, by abstract execution. (Printed by vc.py.) Chapter 12's statements: the line of least squares, by abstract execution. (Printed by vc.py.) Least squares: what a fitted line is. -/
import Derived.Test.YtljnagcdgfdjfaaGreatDoorCards
import Derived.Test.YtljnagcdgfdjfaaGreatDoorBd12
set_option maxRecDepth 100000
set_option linter.unusedVariables false
set_option linter.unusedSimpArgs false
set_option maxHeartbeats 1000000
namespace Go.Proofs.YtljnagcdgfdjfaaGreatDoor.AM
section
variable {x:List (List Rat)} {y:List Rat} {r:Rat}
end
open Go.RowKit
theorem arz {a:Int} (h:ax a):Sq 256 (a:Rat):=(Sq.int (k:=64) (Sm.lit (by unfold ax at h;omega)) (by omega)).le (by omega)
theorem asO {a:Int} (h:ax a):SL 256 [(a:Rat)]:=fun i=>match i with
 | 0=>arz h
 | _+1=>Sq.zero _ (by omega)
def SzQ (M:LM) (k:Nat) (x:Rat):Prop:=∀s,1<=s->SM s M->Sq (s*5^k) x
structure DI (M:LM) (k:Nat) (d:Rat) (F:Nat->Nat->Rat):Prop where
 det:acb M.length (el M) k d F
 szF:∀i j,SzQ M k (F i j)
 szD:SzQ M k d
section
variable {x:List (List Rat)} {y:List Rat} {r:Rat}
end
theorem aTF {x:Rat}:x.num.sign=0↔x=0:=by
 constructor
 ·intro h;have h1:¬x<0:=fun h2=>by have:=aO0.2 h2;omega
  have h3:¬0<x:=fun h2=>by have:=aUp.2 h2;omega
  grind
 ·intro h;rw [h];rfl
theorem NrG.aVw {M:List (List Rat)} {is:List Bool} (h:NrG M is):(akv M is).length=M.length/\HdW M.length (al M) (vMg M is) (ub is) (cw (akv M is))/\∃lm,OpW M.length (al M) (vMg M is) (ub is) (cw (akv M is)) lm:=by have S:=h.start;obtain ⟨a1,a2,a3⟩:=aSe (muW M.length (al M) (vMg M is) (ub is) (cw (stP is M.length 2))+1) S.lb S.hd (tD _);obtain ⟨lm,b1,_⟩:=aVW S.lb S.hd;have e:outL M.length (al M) (vMg M is) (ub is) (muW M.length (al M) (vMg M is) (ub is) (cw (stP is M.length 2))+1) (stP is M.length 2)=akv M is:=S.en;rw [e] at a1 a2;rw [S.en] at b1;exact ⟨a2,a1,lm,b1⟩
theorem NrG.mg {M:List (List Rat)} {is:List Bool} (h:NrG M is):MgG M is (akv M is):=by obtain ⟨a1,a2,_⟩:=h.aVw;exact ⟨h.right,h.len,h.n24,h.w3,h.sM,a1,(h.hd a1 a2).le (by unfold GB;omega)⟩
noncomputable def aOu (M:List (List Rat)) (is:List Bool):Rat:=dW (wyL M is (akv M is)) (wyL M is (akv M is))
noncomputable def mfE (M:List (List Rat)) (is:List Bool):Int:=if chE M is=0 then (if aOu M is=0 then 8 else 0) else chE M is
noncomputable def mfW (M:List (List Rat)) (is:List Bool):List Rat:=if mfE M is=0 then wyL M is (akv M is) else []
noncomputable def mfB (M:List (List Rat)) (is:List Bool):Rat:=if mfE M is=0 then stQ M is (akv M is) else 0
noncomputable def mfD (M:List (List Rat)) (is:List Bool):Rat:=if mfE M is=0 then aOu M is else 0
noncomputable def mfY (M:List (List Rat)) (is:List Bool):List Rat:=if mfE M is=0 then akv M is else []
theorem aVx {M:List (List Rat)} {is:List Bool} {e:Int} (h:mfE M is=e) (h0:e≠0):((mfW M is=[]/\0=mfB M is)/\0=mfD M is/\mfY M is=[])/\e=mfE M is:=by
 have hn:¬mfE M is=0:=by rw [h];exact h0
 unfold mfW mfB mfD mfY;rw [aI hn,aI hn,aI hn,aI hn];exact ⟨⟨⟨rfl,rfl⟩,rfl,rfl⟩,h.symm⟩
theorem aUq {M:List (List Rat)} {is:List Bool} (h:mfE M is=0):((wyL M is (akv M is)=mfW M is/\stQ M is (akv M is)=mfB M is)/\aOu M is=mfD M is/\akv M is=mfY M is)/\0=mfE M is:=by unfold mfW mfB mfD mfY;rw [aV h,aV h,aV h,aV h];exact ⟨⟨⟨rfl,rfl⟩,rfl,rfl⟩,h.symm⟩
noncomputable def LJ6:List az:=aTd::aQS::aRB::Nj::[]
theorem aV7:bd LJ6:=⟨aTz,aRt,aSp,J0,trivial⟩
noncomputable def fmFit:List AV->Option (Option Prop×AV×List Ob)
 | [.k (.list (.list .q)) M,.k (.list .bool) is]=>some (some (chE M is=0->NrG M is),T2 (.agg (.cons (.agg (.cons (.k (.list .q) (mfW M is)) (.cons (.k .q (mfB M is)) .nil))) (.cons (.k .q (mfD M is)) (.cons (.k (.list .q) (mfY M is)) .nil)))) (.k (.int .i64) (mfE M is)),[])
 | _=>none
noncomputable def aT3:az:=⟨26,false,fmFit⟩
noncomputable def aVy (M:List (List Rat)) (is:List Bool):bk:=⟨nU,nL,nR,nU⟩
def aT4 (M:List (List Rat)) (is:List Bool):Prop:=
 let t1:=wyL M is (akv M is);
 bif !decide (chE M is=(0:Int)) then ((mfW M is=[]/\(0:Rat)=mfB M is)/\(0:Rat)=mfD M is/\mfY M is=[])/\chE M is=mfE M is else NrG M is/\MgG M is
 (akv M is)/\Sq BQ (dW t1 t1)/\bif decide ((dW t1 t1).num.sign=(0:Int)) then ((mfW M is=[]/\(0:Rat)=mfB M is)/\(0:Rat)=mfD M is/\mfY M is=[]) /\
 (8:Int)=mfE M is else ((wyL M is (akv M is)=mfW M is/\stQ M is (akv M is)=mfB M is)/\dW t1 t1=mfD M is/\akv M is=mfY M is)/\(0:Int)=mfE M is
theorem aUH (M:List (List Rat)) (is:List Bool):aw LJ6 [] (aVy M is) Tryz.f26 (T2 (.agg (.cons (.agg (.cons (.k (.list .q) (mfW M is)) (.cons (.k .q (mfB M is)) .nil))) (.cons (.k .q (mfD M is)) (.cons (.k (.list .q) (mfY M is)) .nil)))) (.k (.int .i64) (mfE M is))) [.k (.list (.list .q)) M,.k (.list .bool) is]=aT4 M is:=by kernel_rfl
theorem aUI (M:List (List Rat)) (is:List Bool) (hg:chE M is=0->NrG M is):aT4 M is:=by
 unfold aT4;dsimp only;refine dP (fun h=>aVx (aI h) h) fun h=>?_
 have g:=hg h;have hd:Sq 700000000 (dW (wyL M is (akv M is)) (wyL M is (akv M is))):=aVi g.mg.sw g.mg.sw g.mg.lw (by omega);refine ⟨g,g.mg,hd.le (by unfold BQ;omega),aH (fun h2=>?_) fun h2=>?_⟩
 ·have e:mfE M is=8:=by
   unfold mfE;rw [aV h];exact aV (aTF.1 h2)
  exact aVx e (by decide)
 ·have e:mfE M is=0:=by
   unfold mfE;rw [aV h];exact aI fun h3=>h2 (aTF.2 h3)
  exact aUq e
theorem aRD:ah (cfg []) aT3:=cf aV7 bp Tryz.func26 (by kernel_rfl) fun args g r hn hc hg hf=>by
 replace hc:fmFit args=some (g,r,hn):=hc;unfold fmFit at hc;split at hc
 ·obtain ⟨rfl,rfl,rfl⟩:=aN hc;cases aY (aUH _ _) (aUI _ _ hg);exact ⟨rfl,by kernel_rfl,_,by assumption⟩
 ·cases hc
def knM:List (List Rat):=[[((0:Int):Rat)],[((2:Int):Rat)]]
def knS:List Bool:=[false,true]
theorem aXY:chE knM knS=0:=by
 have h1:Shp knM knS:=⟨rfl,by decide,by decide,rfl⟩
 unfold chE;rw [aV h1,aI (by decide)];exact aI fun h=>absurd (h 1 (by decide)) (by decide)
theorem aVz:NrG knM knS:=by
 have i0:ax 0:=by unfold ax;omega
 have i2:ax 2:=by unfold ax;omega
 refine ⟨rfl,rfl,by decide,by decide,fun i=>match i with
  | 0=>asO i0
  | 1=>asO i2
  | _+2=>SL.nil (by omega),fun i j=>match i,j with
  | 0,0=>⟨0,by decide,by kernel_rfl⟩
  | 0,_+1=>⟨0,by decide,by kernel_rfl⟩
  | 1,0=>⟨24,by decide,by kernel_rfl⟩
  | 1,_+1=>⟨0,by decide,by kernel_rfl⟩
  | _+2,_=>⟨0,by decide,by kernel_rfl⟩,fun t=>match t with
  | true=>⟨1,by decide,rfl⟩
  | false=>⟨0,by decide,rfl⟩⟩
theorem aV8:cw (akv knM knS) 0=1/\cw (akv knM knS) 1=1:=by obtain ⟨_,_,lm,h⟩:=aVz.aVw;have h0:0+(if ub knS 0=false then cw (akv knM knS) 0 else 0)+(if ub knS 1=false then cw (akv knM knS) 1 else 0)=1:=h.sum false;have h1:0+(if ub knS 0=true then cw (akv knM knS) 0 else 0)+(if ub knS 1=true then cw (akv knM knS) 1 else 0)=1:=h.sum true;rw [aV (show ub knS 0=false from rfl),aI (show ¬ub knS 1=false by decide)] at h0;rw [aI (show ¬ub knS 0=true by decide),aV (show ub knS 1=true from rfl)] at h1;exact ⟨by grind,by grind⟩
theorem aVA:ptS knM knS (akv knM knS) true 2 0=2/\ptS knM knS (akv knM knS) false 2 0=0:=by
 obtain ⟨h0,h1⟩:=aV8;have e0:el knM 0 0=0:=by kernel_rfl
 have e1:el knM 1 0=2:=by kernel_rfl
 constructor
 ·show 0+(if ub knS 0=true then el knM 0 0*cw (akv knM knS) 0 else 0)+(if ub knS 1=true then el knM 1 0*cw (akv knM knS) 1 else 0)=2;rw [aI (show ¬ub knS 0=true by decide),aV (show ub knS 1=true from rfl),h1,e1];grind
 ·show 0+(if ub knS 0=false then el knM 0 0*cw (akv knM knS) 0 else 0)+(if ub knS 1=false then el knM 1 0*cw (akv knM knS) 1 else 0)=0;rw [aV (show ub knS 0=false from rfl),aI (show ¬ub knS 1=false by decide),h0,e0];grind
theorem aVB (t:Bool):ptL knM knS (akv knM knS) t=[ptS knM knS (akv knM knS) t 2 0]:=rfl
theorem aVC:wyL knM knS (akv knM knS)=[2]:=by obtain ⟨h0,h1⟩:=aVA;have e:wyL knM knS (akv knM knS)=[ptS knM knS (akv knM knS) true 2 0-ptS knM knS (akv knM knS) false 2 0]:=rfl;rw [e,h0,h1];congr 1;grind
theorem aV9:mfE knM knS=0/\mfW knM knS=[2]/\mfB knM knS = -2/\mfD knM knS=4:=by
 have hd:aOu knM knS=4:=by unfold aOu;rw [aVC];kernel_rfl
 have he:mfE knM knS=0:=by unfold mfE;rw [aV aXY,hd];exact aI (by decide)
 obtain ⟨⟨⟨a1,a2⟩,a3,_⟩,_⟩:=aUq he;refine ⟨he,by rw [<-a1];exact aVC,?_,by rw [<-a3];exact hd⟩;rw [<-a2];unfold stQ;obtain ⟨h0,h1⟩:=aVA;rw [aVB,aVB,h0,h1];kernel_rfl
noncomputable def LJ7:List az:=aa5::aa9::aT3::[]
theorem aWa:bd LJ7:=⟨V5,WS,aRD,trivial⟩
def fmKnown:List AV->Option (Option Prop×AV×List Ob)
 | []=>some (none,.k .bool true,[])
 | _=>none
def aTG:az:=⟨30,false,fmKnown⟩
def aT5  : bk:=⟨nU,nL,nR,nU⟩
def aQT  : Prop:=
 let t1:=mfW [[(↑(0:Int):Rat)],[(↑(2:Int):Rat)]] [false,true];
 ax (0:Int)/\ax (2:Int)/\(chE [[(↑(0:Int):Rat)],[(↑(2:Int):Rat)]] [false,true]=(0:Int)->NrG [[(↑(0:Int):Rat)],[(↑(2:Int):Rat)]] [false,
 true])/\(t1.length<=aB->((0:Int)<=(0:Int)/\(0:Int)<(↑t1.length:Int))/\(Sq BQ (t1.getD (Int.toNat (0:Int)) (0:Rat))/\ax (2:Int)/\ax (1:Int)
 /\ (1:Int)≠(0:Int))/\(Sq BQ (mfB [[(↑(0:Int):Rat)],[(↑(2:Int):Rat)]] [false,true])/\ax (-2:Int)/\ax (1:Int)/\(1:Int)≠(0:Int))/\(Sq BQ
 (mfD [[(↑(0:Int):Rat)],[(↑(2:Int):Rat)]] [false,true])/\ax (4:Int)/\ax (1:Int)/\(1:Int)≠(0:Int))/\decide (mfD [[(↑(0:Int):Rat)],[(↑(2 :
 Int):Rat)]] [false,true]=(↑(4:Int):Rat)/(↑(1:Int):Rat))=true)
theorem aTH  : aw LJ7 [] (aT5 ) Tryz.f30 (.k .bool true) []=aQT  :=by kernel_rfl
theorem aTJ  (hf:cJ []):aQT  :=by
 obtain ⟨e0,e1,e2,e3⟩:=aV9;have i0:ax 0:=by unfold ax;omega
 have i1:ax 1:=by unfold ax;omega
 have i2:ax 2:=by unfold ax;omega
 have im:ax (-2):=by unfold ax;omega
 have i4:ax 4:=by unfold ax;omega
 have hB:(256:Nat)<=BQ:=by unfold BQ;omega
 unfold aQT;dsimp only;change ax 0/\ax 2/\(chE knM knS=0->NrG knM knS)/\((mfW knM knS).length<=aB->(_/\(0:Int)<((mfW knM knS).length:Int))/\(Sq BQ ((mfW knM knS).getD _ 0)/\_)/\(Sq BQ (mfB knM knS)/\_)/\(Sq BQ (mfD knM knS)/\_)/\decide (mfD knM knS=_)=true)
 rw [e1,e2,e3];exact ⟨i0,i2,fun _=>aVz,fun _=>⟨⟨by omega,by decide⟩,⟨(arz i2).le hB,i2,i1,by decide⟩,⟨(arz im).le hB,im,i1,by decide⟩,⟨(arz i4).le hB,i4,i1,by decide⟩,by kernel_rfl⟩⟩
theorem aTK:ah (cfg []) aTG:=cf aWa bp Tryz.func30 (by kernel_rfl) fun args g r hn hc hg hf=>by
 replace hc:fmKnown args=some (g,r,hn):=hc;unfold fmKnown at hc;split at hc
 ·obtain ⟨rfl,rfl,rfl⟩:=aN hc;cases aY (aTH ) (aTJ  hf);exact ⟨rfl,by kernel_rfl,_,by assumption⟩
 ·cases hc
noncomputable def LJ8:List az:=ye::[]
theorem aWb:bd LJ8:=⟨uA,trivial⟩
def frLearn:List AV->Option (Option Prop×AV×List Ob)
 | [.k (.list (.list .rq)) M]=>some (none,.k .bool (bif aj M then (bif decide (M.length<=300) then decide (al M<=20) else false) else false),[])
 | _=>none
def aTL:az:=⟨84,false,frLearn⟩
def aT6 (M:List (List Rat)):bk:=⟨nU,nL,nR,nU⟩
def aQY (M:List (List Rat)):Prop:=bif aj M then M.length<=aB->bif decide ((↑M.length:Int)<=(300:Int)) then ((0:Int)<=(0:Int)/\(0:Int)<(↑M.length:Int))/\((M.getD (Int.toNat (0 :
 Int)) []).length<=aB->decide ((↑(M.getD (Int.toNat (0:Int)) []).length:Int)<=(20:Int))=bif aj M then bif decide (M.length<=(300:Nat)) then decide
 (al M<=(20:Nat)) else false else false) else false=bif aj M then bif decide (M.length<=(300:Nat)) then decide (al M<=(20:Nat)) else false else false
 else false=bif aj M then bif decide (M.length<=(300:Nat)) then decide (al M<=(20:Nat)) else false else false
theorem aTM (M:List (List Rat)):aw LJ8 [] (aT6 M) Tryz.f84 (.k .bool (bif aj M then (bif decide (M.length<=300) then decide (al M<=20) else false) else false)) [.k (.list (.list .rq)) M]=aQY M:=by kernel_rfl
theorem aTN (M:List (List Rat)) (hf:cJ [.k (.list (.list .rq)) M]):aQY M:=by
 unfold aQY
 cases hR:aj M with
 | false=>rfl
 | true=>
  obtain ⟨m1,m2,m3⟩:=ba hR;simp only [gU];refine fun _=>aH (fun h=>⟨⟨by omega,by omega⟩,fun _=>?_⟩) fun h=>?_
  ·rw [pq (show M.length<=300 by omega),gU];exact y5.2 (by show ((al M:Nat):Int)<=20↔al M<=20;omega)
  ·rw [jV (show ¬M.length<=300 by omega),qX]
theorem aTO:ah (cfg []) aTL:=cf aWb bp Tryz.func84 (by kernel_rfl) fun args g r hn hc hg hf=>by
 replace hc:frLearn args=some (g,r,hn):=hc;unfold frLearn at hc;split at hc
 ·obtain ⟨rfl,rfl,rfl⟩:=aN hc;cases aY (aTM _) (aTN _ hf);exact ⟨rfl,by kernel_rfl,_,by assumption⟩
 ·cases hc
noncomputable def LJ9:List az:=aTL::[]
theorem aWc:bd LJ9:=⟨aTO,trivial⟩
def frSides:List AV->Option (Option Prop×AV×List Ob)
 | [.k (.list (.list .rq)) M,.k (.list .bool) is]=>some (none,.k (.int .i64) (chE M is),[])
 | _=>none
def aTP:az:=⟨32,false,frSides⟩
def aT7 (M:List (List Rat)) (is:List Bool):bk:=⟨fun key_=>match key_ with | 8=>7 | _=>0,fun key_=>match key_ with
 | 6=>some (⟨Nat,fun i=>[(1,.k (.list .bool) is),(5,.k (.int .i64) ((i+1:Nat):Int))],
 fun _=>[],fun _ i=>i+1<=is.length/\1<=is.length/\∀j,j<i+1->ub is j=ub is 0,fun i=>is.length-i⟩) | _=>none,nR,nU⟩
def aQ0 (M:List (List Rat)) (is:List Bool):Prop:=bif !bif aj M then bif decide (M.length<=(300:Nat)) then decide (al M<=(20:Nat)) else false else false then (5:Int)=chE M is else is.length<=aB ->
 M.length<=aB->bif !decide ((↑is.length:Int)=(↑M.length:Int)) then (5:Int)=chE M is else M.length<=aB->bif decide ((24:Int)<(↑M.length:Int)) then (4
 : Int)=chE M is else ∃(x0:Nat),(is=is/\(1:Int)=(↑(x0+(1:Nat)):Int))/\(x0+(1:Nat)<=is.length/\(1:Nat)<=is.length/\∀(j:Nat),j<x0+(1 :
 Nat)->ub is j=ub is (0:Nat))/\∀(x:Nat),let u1:=(↑(x+(1:Nat)):Int);(x+(1:Nat)<=is.length/\(1:Nat)<=is.length/\∀(j:Nat),j<x+(1:Nat) ->
 ub is j=ub is (0:Nat))->is.length<=aB->bif decide (u1<(↑is.length:Int)) then ((0:Int)<=u1/\u1<(↑is.length:Int))/\((0:Int)<=(0:Int)/\(0:Int) <
 (↑is.length:Int))/\bif !is.getD u1.toNat false == is.getD (Int.toNat (0:Int)) false then (0:Int)=chE M is else ax (u1+(1:Int))/\∃(x':Nat),(is=is /\
 u1+(1:Int)=(↑(x'+(1:Nat)):Int))/\(x'+(1:Nat)<=is.length/\(1:Nat)<=is.length/\∀(j:Nat),j<x'+(1:Nat)->ub is j=ub is (0:Nat)) /\
 is.length-x'<is.length-x else (7:Int)=chE M is
theorem aTQ (M:List (List Rat)) (is:List Bool):aw LJ9 [] (aT7 M is) Tryz.f32 (.k (.int .i64) (chE M is)) [.k (.list (.list .rq)) M,.k (.list .bool) is]=aQ0 M is:=by kernel_rfl
theorem aTR (M:List (List Rat)) (is:List Bool) (hf:cJ [.k (.list (.list .rq)) M,.k (.list .bool) is]):aQ0 M is:=by
 have no:¬Shp M is->(5:Int)=chE M is:=fun h=>(aI h).symm;unfold aQ0
 cases hL:(bif aj M then bif decide (M.length<=300) then decide (al M<=20) else false else false) with
 | false=>exact no fun hs=>by rw [hs.1,gU,pq hs.2.1,gU,pq hs.2.2.1] at hL;cases hL
 | true=>
  have h3:aj M=true/\M.length<=300/\al M<=20:=by
   cases hR:aj M with
   | false=>rw [hR] at hL;cases hL
   | true=>
    rw [hR,gU] at hL
    cases h4:decide (M.length<=300) with
    | false=>rw [h4] at hL;cases hL
    | true=>rw [h4,gU] at hL;exact ⟨rfl,yu h4,yu hL⟩
  rw [show (!true)=false from rfl,qX];refine fun _ _=>dP (fun h=>no fun hs=>h (by have:=hs.2.2.2;omega)) fun h _=>?_;have hS:Shp M is:=⟨h3.1,h3.2.1,h3.2.2,by omega⟩
  have eC:chE M is=if 24<M.length then 4 else chI is:=aV hS
  have hp:=(ba h3.1).1;rw [eC];refine aH (fun h6=>(aV (by omega)).symm) fun h6=>?_;rw [aI (by omega)];refine ⟨0,⟨rfl,rfl⟩,⟨by omega,by omega,fun j hj=>by rw [show j=0 by omega]⟩,fun i ⟨hi,h1,bB⟩ _=>aH (fun h7=>?_) fun h7=>?_⟩
  ·have hi':i+1<is.length:=by omega
   refine ⟨⟨by omega,h7⟩,⟨by omega,by omega⟩,?_⟩;change bif !(ub is (i+1) == ub is 0) then _ else _
   cases e:(ub is (i+1) == ub is 0) with
   | false=>show (0:Int)=chI is;exact (aI fun hf=>by rw [hf (i+1) hi',beq_self_eq_true] at e;cases e).symm
   | true=>
    rw [show (!true)=false from rfl,qX];refine ⟨by unfold ax;omega,i+1,⟨rfl,rfl⟩,⟨by omega,h1,fun j hj=>?_⟩,by omega⟩;rcases cE j (i+1) with h4 | h4
    ·exact bB j h4
    ·rw [show j=i+1 by omega];exact Hg e
  ·exact (aV fun j hj=>bB j (by omega)).symm
theorem aTS:ah (cfg []) aTP:=cf aWc bp Tryz.func32 (by kernel_rfl) fun args g r hn hc hg hf=>by
 replace hc:frSides args=some (g,r,hn):=hc;unfold frSides at hc;split at hc
 ·obtain ⟨rfl,rfl,rfl⟩:=aN hc;cases aY (aTQ _ _) (aTR _ _ hf);exact ⟨rfl,by kernel_rfl,_,by assumption⟩
 ·cases hc
def mnM (n:Nat):List (List Rat):=aG n 1 fun a _=>(((a:Nat):Int):Rat)
theorem aXZ {n m i j:Nat} {F:Nat->Nat->Rat}:el (aG n m F) i j=if i<n/\j<m then F i j else 0:=by
 by_cases h:i<n/\j<m
 ·rw [aV h];exact Ny h.1 h.2
 ·rw [aI h];unfold el;by_cases hi:i<n
  ·rw [na hi,mZ (by rw [mX];omega)]
  ·rw [mZ (xs:=aG n m F) (by rw [mkM_len];omega)];rfl
theorem aVD {M:List (List Rat)} {is:List Bool} (h:chE M is=0):Shp M is/\M.length<=24/\∀t,∃i,i<M.length/\ub is i=t:=by
 unfold chE at h;by_cases h1:Shp M is
 ·rw [aV h1] at h;by_cases h2:24<M.length
  ·rw [aV h2] at h;exact absurd h (by decide)
  ·rw [aI h2] at h;refine ⟨h1,by omega,fun t=>?_⟩;unfold chI at h;by_cases h3:∀i,i<is.length->ub is i=ub is 0
   ·rw [aV h3] at h;exact absurd h (by decide)
   ·obtain ⟨i,hi⟩:=CQ.1 h3;obtain ⟨h4,h5⟩:=Classical.not_imp.1 hi;have hl:=h1.2.2.2;by_cases h6:ub is 0=t
    ·exact ⟨0,by omega,h6⟩
    ·refine ⟨i,by omega,?_⟩
     cases h7:ub is i <;> cases h8:ub is 0 <;> cases t <;> simp_all
 ·rw [aI h1] at h;exact absurd h (by decide)
theorem aVE {M:List (List Rat)} {is:List Bool} (h:chE M is=0->aOu M is≠0):mfE M is=chE M is:=by
 unfold mfE;by_cases h1:chE M is=0
 ·rw [aV h1,aI (h h1),h1]
 ·rw [aI h1]
theorem aVF {n:Nat} (hn:n<=29):SM 256 (mnM n):=fun i=>by
 by_cases hi:i<n
 ·unfold mnM;rw [na hi];exact SL.mk (fun _ _=>arz (by unfold ax;omega)) (by omega)
 ·rw [mZ (by unfold mnM;rw [mkM_len];omega)];exact SL.nil (by omega)
theorem aDl (n:Nat):(mnM n).length=n:=mkM_len ..
theorem aRo {n:Nat} (h:0<n):al (mnM n)=1:=tM h _
theorem aVG {n:Nat} {is:List Bool} (hn:n<=29) (h:chE (mnM n) is=0):NrG (mnM n) is:=by
 obtain ⟨h1,h2,h3⟩:=aVD h;have hp:0<n:=by have:=(ba h1.1).1;rw [aDl] at this;exact this
 refine ⟨h1.1,h1.2.2.2,h2,by rw [aRo hp];omega,aVF hn,fun i j=>?_,h3⟩;unfold mnM;rw [aXZ];by_cases hij:i<n/\j<1
 ·rw [aV hij];exact ⟨(i:Int)*12,by have:=hij.1;omega,by rw [Jn];rfl⟩
 ·rw [aI hij];exact ⟨0,by decide,by rw [yp];rfl⟩
theorem aVH {n:Nat} {k:Int} (hn:n<=29) (h:chE (mnM n) (aA n fun a=>decide (k<=((a:Nat):Int)))=0):aOu (mnM n) (aA n fun a=>decide (k<=((a:Nat):Int)))≠0:=by
 have g:=aVG hn h;obtain ⟨hl,H,lm,O⟩:=g.aVw;have hp:0<n:=by have:=(ba g.right).1;rw [aDl] at this;exact this
 have hub:∀i,i<n->ub (aA n fun a=>decide (k<=((a:Nat):Int))) i=decide (k<=((i:Nat):Int)):=fun i hi=>aU4 hi;unfold aOu;generalize akv (mnM n) (aA n fun a=>decide (k<=((a:Nat):Int)))=b at *
 generalize (aA n fun a=>decide (k<=((a:Nat):Int)))=S at *
 have hel:∀m,m<n->el (mnM n) m 0=(((m:Nat):Int):Rat):=fun m hm=>Ny hm (by omega);have lo:∀m,m<=n->(k:Rat)*sdS m (ub S) true (cw b)<=ptS (mnM n) S b true m 0:=fun m=>by
  induction m with
  | zero=>intro _;show (k:Rat)*0<=0;grind
  | succ m ih=>
   intro hm;have ih:=ih (by omega);by_cases hu:ub S m=true
   ·rw [<-aUn hu,aPh hu,hel m (by omega)];have h4:k<=((m:Nat):Int):=yu (by rw [<-hub m (by omega)];exact hu);have h5:=Aw (Rat.intCast_le_intCast.2 h4) (H.nn m);grind
   ·rw [<-aVg hu,aSf hu];exact ih
 have hi:∀m,m<=n->ptS (mnM n) S b false m 0<=((k-1:Int):Rat)*sdS m (ub S) false (cw b):=fun m=>by
  induction m with
  | zero=>intro _;show (0:Rat)<=((k-1:Int):Rat)*0;grind
  | succ m ih=>
   intro hm;have ih:=ih (by omega);by_cases hu:ub S m=false
   ·rw [<-aUn hu,aPh hu,hel m (by omega)];have h4:¬k<=((m:Nat):Int):=of_decide_eq_false (by rw [<-hub m (by omega)];exact hu);have h5:=Aw (Rat.intCast_le_intCast.2 (show ((m:Nat):Int)<=k-1 by omega)) (H.nn m);grind
   ·rw [<-aVg hu,aSf hu];exact ih
 have s1:=O.sum true;have s2:=O.sum false;have l1:=lo n (cM _);have l2:=hi n (cM _);rw [aDl] at s1 s2;rw [s1] at l1;rw [s2] at l2;have e1:((k-1:Int):Rat)=(k:Rat)-1:=by rw [Rat.intCast_sub];rfl
 rw [e1] at l2;have e2:wyL (mnM n) S b=aA 1 fun j=>ptS (mnM n) S b true n j-ptS (mnM n) S b false n j:=by unfold wyL;rw [aRo hp,aDl]
 rw [e2];show 0+(ptS (mnM n) S b true n 0-ptS (mnM n) S b false n 0)*(ptS (mnM n) S b true n 0-ptS (mnM n) S b false n 0)≠0;generalize ptS (mnM n) S b true n 0=p at *
 generalize ptS (mnM n) S b false n 0=q at *
 have h6:1<=p-q:=by grind
 intro h7;have h8:(p-q)*(p-q)=0:=by rw [Rat.zero_add] at h7;exact h7
 rcases Cj.1 h8 with h9 | h9 <;> grind
noncomputable def aWj:List az:=Cy::xQ::Ap::aT3::aTG::aTP::[]
theorem aVI:bd aWj:=⟨nJ,mV,CL,aRD,aTK,aTS,trivial⟩
noncomputable def flMany:List AV->Option (Option Prop×AV×List Ob)
 | [.k (.int .i64) n,.k (.int .i64) w,.k .bool sh]=>some (some (ax n/\ax w),.k .bool true,[])
 | _=>none
noncomputable def aWd:az:=⟨5,false,flMany⟩
noncomputable def aUJ (n w:Int) (sh:Bool):bk:=⟨nU,fun key_=>match key_ with
 | 5=>some (⟨Nat,fun i=>[(0,.k (.int .i64) (n%30)),(1,.k (.int .i64) w),(2,.k .bool sh),(7,.own 7 0 1),(8,.own 8 0 1),(9,.k (.int .i64) ((i:Nat):Int))],
 fun i=>[(7,.bc 26 69 .rq (aA i fun t=>t) (mnM i)),(8,.arr 4 .bool (aA i fun a=>decide (w%(n%30)<=((a:Nat):Int))))],
 fun _ i=>i<=(n%30).toNat,fun i=>(n%30).toNat-i⟩) | _=>none,nR,nU⟩
def aLr (n w:Int) (sh:Bool) (x:Nat):Prop:=SM BQ (List.map (fun (p:Nat)=>(mnM x).getD p []) (aA x fun (t:Nat)=>t))/\(chE (List.map (fun (p:Nat)=>(mnM x).getD p []) (aA x fun (t:Nat)=>t)) (aA x
 fun (a:Nat)=>decide (w%(n%(30:Int))<=(↑a:Int)))=(0:Int)->NrG (List.map (fun (p:Nat)=>(mnM x).getD p []) (aA x fun (t:Nat)=>t)) (aA x fun (a :
 Nat)=>decide (w%(n%(30:Int))<=(↑a:Int))))/\bif decide (mfE (List.map (fun (p:Nat)=>(mnM x).getD p []) (aA x fun (t:Nat)=>t)) (aA x fun (a:Nat)=>
 decide (w%(n%(30:Int))<=(↑a:Int)))=chE (List.map (fun (p:Nat)=>(mnM x).getD p []) (aA x fun (t:Nat)=>t)) (aA x fun (a:Nat)=>decide (w%(n%(30
 : Int))<=(↑a:Int)))) then bif decide (n%(30:Int)<=(24:Int)) then true=true else bif sh then true=true else decide (mfE (List.map (fun (p:Nat)=>(mnM
 x).getD p []) (aA x fun (t:Nat)=>t)) (aA x fun (a:Nat)=>decide (w%(n%(30:Int))<=(↑a:Int)))=(4:Int))=true else false=true
def aSY (n w:Int) (sh:Bool):Prop:=
 let t1:=n%(30:Int);
 (ax n/\(0:Int)<(30:Int)/\(30:Int)<=(9223372036854775807:Int))/\∃(x0:Nat),((n%(30:Int)=n%(30:Int)/\w=w/\sh=sh/\(0:Int)=(↑x0 :
 Int))/\((aA x0 fun (t:Nat)=>t)=[]/\mnM x0=[])/\(aA x0 fun (a:Nat)=>decide (w%t1<=(↑a:Int)))=[])/\x0<=t1.toNat/\∀(x:Nat),
 let u2:=List.map (fun (p:Nat)=>(mnM x).getD p []) (aA x fun (t:Nat)=>t);let u1:=aA x fun (a:Nat)=>decide (w%t1<=(↑a:Int));x<=t1.toNat->bif
 decide ((↑x:Int)<n%(30:Int)) then ax (↑x:Int)/\((aA x fun (t:Nat)=>t).length+(1:Nat)<=aB/\((mnM x).length)<(mnM x++[[(↑(↑x:Int) :
 Rat)]]).length)/\(ax w/\(0:Int)<n%(30:Int)/\n%(30:Int)<=(9223372036854775807:Int))/\u1.length+[decide (w%t1<=(↑x:Int))].length<=aB/\ax
 ((↑x:Int)+(1:Int))/\∃(x':Nat),((n%(30:Int)=n%(30:Int)/\w=w/\sh=sh/\(↑x:Int)+(1:Int)=(↑x':Int))/\(((aA x fun (t:Nat)=>t) ++
 [((mnM x).length)]=aA x' fun (t:Nat)=>t)/\mnM x++[[(↑(↑x:Int):Rat)]]=mnM x')/\u1.append [decide (w%t1<=(↑x:Int))]=aA x' fun (a:Nat)=>decide
 (w%t1<=(↑a:Int)))/\x'<=t1.toNat/\t1.toNat-x'<t1.toNat-x else bif sh then bif decide ((0:Int)<n%(30:Int)) then rz u1.length (some (1:Int)) none
 none/\SM BQ u2/\(chE u2 (cutL u1 (some (1:Int)) none)=(0:Int)->NrG u2 (cutL u1 (some (1:Int)) none))/\bif decide (mfE u2 (cutL u1 (some (1:Int)) none)=chE
 u2 (cutL u1 (some (1:Int)) none)) then bif decide (n%(30:Int)<=(24:Int)) then true=true else bif sh then true=true else decide (mfE u2 (cutL u1 (some (1 :
 Int)) none)=(4:Int))=true else false=true else aLr n w sh x else aLr n w sh x
theorem aT8 (n w:Int) (sh:Bool):aw aWj [] (aUJ n w sh) Tryz.f5 (.k .bool true) [.k (.int .i64) n,.k (.int .i64) w,.k .bool sh]=aSY n w sh:=by kernel_rfl
theorem aT9 (n w:Int) (sh:Bool) (hg:ax n/\ax w) (hf:cJ [.k (.int .i64) n,.k (.int .i64) w,.k .bool sh]):aSY n w sh:=by
 obtain ⟨hn,hw⟩:=hg;have hN:0<=n%30/\n%30<30:=by omega
 have eX:∀x,List.map (fun (p:Nat)=>(mnM x).getD p []) (aA x fun (t:Nat)=>t)=mnM x:=fun x=>by rw [sv];exact (vt [] (mkM_len _ _ _) fun i _=>rfl).symm
 unfold aSY;dsimp only;simp only [eX];refine ⟨⟨hn,by omega,by omega⟩,0,⟨⟨True.intro,True.intro,True.intro,rfl⟩,⟨rfl,rfl⟩,rfl⟩,fi _,fun x hx=>aH (fun h=>?_) fun h=>?_⟩
 ·simp only [mX];refine ⟨by unfold ax;omega,⟨by unfold aB;omega,by rw [eD];simp⟩,⟨hw,by omega,by omega⟩,by show x+1<=aB;unfold aB;omega,by unfold ax;omega,x+1,⟨⟨True.intro,True.intro,True.intro,rfl⟩,⟨?_,?_⟩,?_⟩,by omega,by omega⟩
  ·rw [aDl];exact (tI x fun t=>t).symm
  ·exact (tI x _).symm
  ·exact (tI x _).symm
 ·have aVJ:x<=29:=by omega
  have hSM:SM BQ (mnM x):=(aVF aVJ).le (by unfold BQ;omega);have hE:=aVE (aVH (k:=w%(n%30)) aVJ);have last:aLr n w sh x:=by
   unfold aLr;rw [eX];refine ⟨hSM,aVG aVJ,?_⟩;rw [pq hE,gU];refine aH (fun _=>rfl) fun h24=>?_
   cases sh with
   | true=>rfl
   | false=>
    rw [qX,hE];have hp:0<x:=by omega
    have hS:Shp (mnM x) (aA x fun a=>decide (w%(n%30)<=((a:Nat):Int))):=⟨Lh hp (by omega) _,by rw [aDl];omega,by rw [aRo hp];omega,by rw [mX,aDl]⟩
    have e:chE (mnM x) (aA x fun a=>decide (w%(n%30)<=((a:Nat):Int)))=4:=by unfold chE;rw [aV hS,aV (by rw [aDl];omega)]
    rw [e];rfl
  cases sh with
  | false=>exact last
  | true=>
   rw [gU];refine aH (fun h0=>?_) fun _=>last;have hp:0<x:=by omega
   have e5:chE (mnM x) (cutL (aA x fun a=>decide (w%(n%30)<=((a:Nat):Int))) (some 1) none)=5:=aI fun hs=>by have h3:=hs.2.2.2;have h4:((aA x fun a=>decide (w%(n%30)<=((a:Nat):Int))).drop 1).length=(mnM x).length:=h3;rw [Cm,mX,aDl] at h4;omega
   have e6:=aVE (M:=mnM x) (is:=cutL (aA x fun a=>decide (w%(n%30)<=((a:Nat):Int))) (some 1) none) fun h=>by rw [e5] at h;exact absurd h (by decide)
   refine ⟨⟨by omega,by rw [mX];omega⟩,hSM,fun h=>by rw [e5] at h;exact absurd h (by decide),?_⟩;rw [pq e6,gU];exact aH (fun _=>True.intro) fun _=>by rw [gU];trivial
theorem aUa:ah (cfg []) aWd:=cf aVI bp Tryz.func5 (by kernel_rfl) fun args g r hn hc hg hf=>by
 replace hc:flMany args=some (g,r,hn):=hc;unfold flMany at hc;split at hc
 ·obtain ⟨rfl,rfl,rfl⟩:=aN hc;cases aY (aT8 _ _ _) (aT9 _ _ _ hg hf);exact ⟨rfl,by kernel_rfl,_,by assumption⟩
 ·cases hc
end Go.Proofs.YtljnagcdgfdjfaaGreatDoor.AM
namespace Go.Proofs.YtljnagcdgfdjfaaGreatDoor
open Go.ChangeShapes Go.WideShapes Go.ChangeAt Go.RowKit AM
noncomputable def ay9 (os:Os):World:={ World.holding Tryz.prog os ⟨#[],#[],[]⟩ with heap:=((World.holding Tryz.prog os ⟨#[],#[],[]⟩).heap.modify 2 (OU #[.int .u8 0,.int .u8 1,.int .u8 56,.int .u8 2,.int .u8 57,.int .u8 49,.int .u8 28,.int .u8 3,.int .u8 61,.int .u8 58,.int .u8 42,.int .u8 50,.int .u8 38,.int .u8 29,.int .u8 17,.int .u8 4,.int .u8 62,.int .u8 47,.int .u8 59,.int .u8 36,.int .u8 45,.int .u8 43,.int .u8 51,.int .u8 22,.int .u8 53,.int .u8 39,.int .u8 33,.int .u8 30,.int .u8 24,.int .u8 18,.int .u8 12,.int .u8 5,.int .u8 63,.int .u8 55,.int .u8 48,.int .u8 27,.int .u8 60,.int .u8 41,.int .u8 37,.int .u8 16,.int .u8 46,.int .u8 35,.int .u8 44,.int .u8 21,.int .u8 52,.int .u8 32,.int .u8 23,.int .u8 11,.int .u8 54,.int .u8 26,.int .u8 40,.int .u8 15,.int .u8 34,.int .u8 20,.int .u8 31,.int .u8 10,.int .u8 25,.int .u8 14,.int .u8 19,.int .u8 9,.int .u8 13,.int .u8 8,.int .u8 7,.int .u8 6])) }
theorem aNG {W:World} (h:laidMetH Tryz.prog Rows.marginManyRow.laid W):cK W:=by
 have h1:laidMet Tryz.prog [("math/bits.deBruijn64tab",Rows.laid_math_bits_deBruijn64tab)] W:=h
 exact EU (by kernel_rfl) h1 trivial
theorem aK8 (H:Type) (enc:TypeId×Value->H) (W:World) (base:Nat) (args:Array Value) (ds gs:List (DataW H)) (before:List MemPlace)
  (fV:∀(j:Nat) t v,Tryz.f5.params[j]? = some t->args[j]? = some v->Value.okWide Tryz.prog W .any base t v)
  (hW:DataW.Whole enc Tryz.prog Tryz.f5.params.toList Rows.marginManySpec.vars false W args.toList ds gs before) (aan:cK W) :
  Calls Tryz.prog 5 args W fun e W'=>∃v,e = .returned v/\Rows.marginManySpec.post enc Tryz.prog Tryz.f5 false true false false W args v W':=by
 have YR:=hW
 obtain ⟨p,q,hA0,hV,rfl,hfz,hnd⟩:=hW
 have hA:DataW.TrodAll enc Tryz.prog W 0 (fun _=>true) true Tryz.f5.params.toList args.toList ds p:=hA0
 rw [Tryz.params5] at hA fV
 obtain ⟨v0,vs0,d0,ds0,p0,q0,IE,rfl,rfl,h0,r0⟩:=trodAll_cons hA
 obtain ⟨v1,vs1,d1,ds1,p1,q1,rfl,rfl,rfl,h1,r1⟩:=trodAll_cons r0
 obtain ⟨v2,vs2,d2,ds2,p2,q2,rfl,rfl,rfl,h2,r2⟩:=trodAll_cons r1
 obtain ⟨rfl,rfl,rfl⟩:=trodAll_nil r2
 obtain rfl:args = #[v0,v1,v2]:=by cases args;simp_all
 obtain ⟨rfl,rfl⟩:=trodVars_none hV
 obtain ⟨a0,rfl,rfl,rfl,w0⟩:=open_int Tryz.underlying3 (fV 0 3 v0 rfl rfl) h0
 obtain ⟨a1,rfl,rfl,rfl,w1⟩:=open_int Tryz.underlying3 (fV 1 3 v1 rfl rfl) h1
 obtain ⟨c2,rfl,rfl,rfl⟩:=open_bool Tryz.underlying4 (fV 2 4 v2 rfl rfl) h2
 clear hA0
 refine (Mg (args:=[.k (.int .i64) a0,.k (.int .i64) a1,.k .bool c2]) (vs:=[.int .i64 a0,.int .i64 a1,.bool c2]) aUa rfl ⟨wf_i64 w0,wf_i64 w1⟩ aan ⟨(.mkInt _ _),(.mkInt _ _),(.dN _),trivial⟩).mono fun e W' ⟨he,hg⟩=>?_
 subst he
 exact ⟨_,rfl,OV rfl rfl (fun t ht=>by
  rw [Tryz.params5] at ht;have bB:([3,3,4].all fun u=>Tryz.prog.readableRec u&&decide (u<Tryz.prog.types.size))=true:=by kernel_rfl
  have:=vv.1 bB t (by simpa using ht);simpa using this) YR ⟨rfl,rfl,rfl⟩ hg⟩
theorem aOG (os:Os):laidMet Tryz.prog Rows.marginManyRow.laid ((ay9 os).forCall (fun _ _=>0) ⟨#[],#[.int .i64 0,.int .i64 0,.bool false],[]⟩).memory:=laidMet_of_run' 8 (by kernel_rfl) (by kernel_rfl)
theorem aNH (os:Os) {H:Type} (enc:TypeId×Value->H):∃places,DataW.whole enc Tryz.prog ((ay9 os).forCall (fun _ _=>0) ⟨#[],#[.int .i64 0,.int .i64 0,.bool false],[]⟩).memory Tryz.f5.params.toList Rows.marginManySpec.vars false (#[.int .i64 0,.int .i64 0,.bool false]:Array Value).toList 8=some ([.lit (.int .i64 0),.lit (.int .i64 0),.lit (.bool false)],[],places):=⟨[],by kernel_rfl⟩
theorem aM7 (os:Os) (started:os.Started) (H:Type) (enc:TypeId×Value->H) (F:Stop.Interp) :
  ReturnsInHanded {} Tryz.checked os 5 .any ((OpenSpec.ofChange Rows.marginManySpec).preRow enc Tryz.prog Tryz.f5 Rows.marginManyRow.domain false Rows.marginManyRow.laid) (((OpenSpec.ofChange Rows.marginManySpec).at F).post enc Tryz.prog Tryz.f5 false true false false):=by
 obtain ⟨places,hx⟩:=aNH os enc
 refine returnsInHanded_of_row (C:=Tryz.checked) (s:=OpenSpec.ofChange Rows.marginManySpec) own started (by kernel_rfl) Tryz.func5
  (witness_row_at (enc:=enc) (C:=Tryz.checked) false (ay9 os) #[.int .i64 0,.int .i64 0,.bool false] rfl (by kernel_rfl) (by kernel_rfl) (by kernel_rfl)
   (OpenSpec.preRow_of_cond 8 hx (by kernel_rfl) (fun k hk=>by cases hk) (by kernel_rfl) (aOG os))) ?_
 intro W base args ds gs before fV hW _ _ _ hL _ _
 exact aK8 H enc W base args ds gs before fV hW (aNG hL)
theorem aNJ:Rows.MarginManySaid:=
 OpenClaim.holds_of_cond 5 Tryz.f5 rfl rfl rfl rfl rfl rfl rfl ⟨rfl,rfl,rfl,rfl,rfl⟩ rfl rfl rfl rfl rfl (by kernel_rfl) Tryz.func5 (by kernel_rfl)
  (yu (by kernel_rfl)) (by unfold Func.isWrapper;first | (rw [aV (by decide +kernel)];kernel_rfl) | (rw [aI (by decide +kernel)];exact ⟨rfl,rfl⟩))
  (fun os started H enc _ F=>by rw [OpenClaim.pre_eq_preRow];exact aM7 os started H enc F)
theorem aNO (f:FuncId) (fn:Func) (hf:Tryz.pinned.checked.prog.funcNamed "abaculus/abaculuslaw32.MarginMany" = some f) (hfn:Tryz.pinned.checked.prog.funcs[f]? = some fn) :
  false=Tryz.pinned.checked.prog.looks []/\∀(j:Nat) t,fn.params[j]? = some t->Tryz.pinned.checked.prog.wantsStandIn t=false:=by
 obtain rfl:f=5:=Option.some.inj ((show Tryz.prog.funcNamed "abaculus/abaculuslaw32.MarginMany" = some 5 by kernel_rfl).symm.trans hf) |>.symm
 obtain rfl:fn=Tryz.f5:=(Option.some.inj (Tryz.func5.symm.trans hfn)).symm
 refine ⟨by kernel_rfl,fun j t ht=>?_⟩
 rw [Tryz.params5] at ht
 have hm:t∈[3,3,4]:=by simpa using Array.mem_of_getElem? ht
 have bB:([3,3,4].all fun u=> !Tryz.prog.wantsStandIn u)=true:=by kernel_rfl
 exact (show Tryz.prog.wantsStandIn t=false by simpa using vv.1 bB t hm)
theorem marginManyCard_holds:Rows.MarginManyCardSaid:=Claim7.holds_tied_plain_at .later [] _ _ _ _ aNJ (fun _ h=>by cases h) (by kernel_rfl) (fun _ h=>by cases h) marginMany_row_tie rfl ⟨rfl,rfl⟩ (by kernel_rfl) rfl aNO (by kernel_rfl)
#print axioms marginManyCard_holds
end Go.Proofs.YtljnagcdgfdjfaaGreatDoor
