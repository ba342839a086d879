/- chapter 32's example, and more: the sentence has no arguments. MarginKnown, by abstract execution. (Printed by vc.py.) Abstract execution: a region that draws its order: what only reads is taken first, then every order of the rest. Abstract execution: a region that draws its order, its operations numbered anew. law32.two, margin.Edge, by abstract execution. (Printed by vc.py.) Chapter 11's statements: reduced forms, by abstract execution. (Printed by vc.py.) Reduced forms of matrices whose rows have been put together in another way: plain mathematics. Chapter 11's statements: the example, and their matrices, by abstract execution. (Printed by vc.py.) Chapter 10's statements: their numbers, by abstract execution. (Printed by vc.py.) Walks: the texts of 1 and 2. elim.Whole at the example's matrix, by abstract execution. (Printed by vc.py.) elim.Whole: determinants of whole numbers, by abstract execution. (Printed by vc.py.) margin.Answer; MarginAnswers, by abstract execution. (Printed by vc.py.) Two contracts of one function. MarginMoves: what moved rows and exchanged sides have. law32.drawn and MarginFits, by abstract execution. (Printed by vc.py.) The rows of MarginKnown. The line of the widest street: what it hangs on; other orders, doubled rows, moved rows, sides exchanged. MarginFits: what the steps end in; the rows that are drawn. MarginMany, by abstract execution. (Printed by vc.py.) The document's widest street, by abstract execution. (Printed by vc.py.) margin.Same, Joins, Meet, Proof, by abstract execution. (Printed by vc.py.) margin.Fit, Same; chapter 32's known example; the document's errors; by abstract execution. (Printed by vc.py.) The document's lines of least squares, by abstract execution. (Printed by vc.py.) The document's determinants and inverses, by abstract execution. (Printed by vc.py.) elim.Det: determinants by elimination, by abstract execution. (Printed by vc.py.) The document's reduced forms, kernels, solutions, by abstract execution. (Printed by vc.py.) Chapter 12's statements: the line of least squares, by abstract execution. (Printed by vc.py.) Least squares: what a fitted line is. -/
import Derived.Test.YtefbmebfkfeefaaGreatDoorCards
import Derived.Test.YtefbmebfkfeefaaGreatDoorBd11
set_option maxRecDepth 100000
set_option linter.unusedVariables false
set_option linter.unusedSimpArgs false
set_option maxHeartbeats 1000000
namespace Go.Proofs.YtefbmebfkfeefaaGreatDoor.AM
section
variable {x:List (List Rat)} {y:List Rat} {r:Rat}
end
open Go.RowKit
theorem arz {a:Int} (h:ax a):Sq 256 (a:Rat):=(Sq.int (k:=64) (Sm.lit (by unfold ax at h;omega)) (by omega)).le (by omega)
theorem asO {a:Int} (h:ax a):SL 256 [(a:Rat)]:=fun i=>match i with
 | 0=>arz h
 | _+1=>Sq.zero _ (by omega)
def SzQ (M:LM) (k:Nat) (x:Rat):Prop:=∀s,1<=s->SM s M->Sq (s*5^k) x
structure DI (M:LM) (k:Nat) (d:Rat) (F:Nat->Nat->Rat):Prop where
 det:acb M.length (el M) k d F
 szF:∀i j,SzQ M k (F i j)
 szD:SzQ M k d
section
variable {x:List (List Rat)} {y:List Rat} {r:Rat}
end
theorem aTF {x:Rat}:x.num.sign=0↔x=0:=by
 constructor
 ·intro h;have h1:¬x<0:=fun h2=>by have:=aO0.2 h2;omega
  have h3:¬0<x:=fun h2=>by have:=aUp.2 h2;omega
  grind
 ·intro h;rw [h];rfl
theorem NrG.aVw {M:List (List Rat)} {is:List Bool} (h:NrG M is):(akv M is).length=M.length/\HdW M.length (al M) (vMg M is) (ub is) (cw (akv M is))/\∃lm,OpW M.length (al M) (vMg M is) (ub is) (cw (akv M is)) lm:=by have S:=h.start;obtain ⟨a1,a2,a3⟩:=aSe (muW M.length (al M) (vMg M is) (ub is) (cw (stP is M.length 2))+1) S.lb S.hd (tC _);obtain ⟨lm,b1,_⟩:=aVW S.lb S.hd;have e:aZH M.length (al M) (vMg M is) (ub is) (muW M.length (al M) (vMg M is) (ub is) (cw (stP is M.length 2))+1) (stP is M.length 2)=akv M is:=S.en;rw [e] at a1 a2;rw [S.en] at b1;exact ⟨a2,a1,lm,b1⟩
theorem NrG.mg {M:List (List Rat)} {is:List Bool} (h:NrG M is):MgG M is (akv M is):=by obtain ⟨a1,a2,_⟩:=h.aVw;exact ⟨h.right,h.len,h.n24,h.w3,h.sM,a1,(h.hd a1 a2).le (by unfold GB;omega)⟩
noncomputable def aOu (M:List (List Rat)) (is:List Bool):Rat:=dW (wyL M is (akv M is)) (wyL M is (akv M is))
noncomputable def mfE (M:List (List Rat)) (is:List Bool):Int:=if chE M is=0 then (if aOu M is=0 then 8 else 0) else chE M is
noncomputable def mfW (M:List (List Rat)) (is:List Bool):List Rat:=if mfE M is=0 then wyL M is (akv M is) else []
noncomputable def mfB (M:List (List Rat)) (is:List Bool):Rat:=if mfE M is=0 then stQ M is (akv M is) else 0
noncomputable def mfD (M:List (List Rat)) (is:List Bool):Rat:=if mfE M is=0 then aOu M is else 0
noncomputable def mfY (M:List (List Rat)) (is:List Bool):List Rat:=if mfE M is=0 then akv M is else []
theorem aVx {M:List (List Rat)} {is:List Bool} {e:Int} (h:mfE M is=e) (h0:e≠0):((mfW M is=[]/\0=mfB M is)/\0=mfD M is/\mfY M is=[])/\e=mfE M is:=by
 have hn:¬mfE M is=0:=by rw [h];exact h0
 unfold mfW mfB mfD mfY;rw [aI hn,aI hn,aI hn,aI hn];exact ⟨⟨⟨rfl,rfl⟩,rfl,rfl⟩,h.symm⟩
theorem aUq {M:List (List Rat)} {is:List Bool} (h:mfE M is=0):((wyL M is (akv M is)=mfW M is/\stQ M is (akv M is)=mfB M is)/\aOu M is=mfD M is/\akv M is=mfY M is)/\0=mfE M is:=by unfold mfW mfB mfD mfY;rw [aV h,aV h,aV h,aV h];exact ⟨⟨⟨rfl,rfl⟩,rfl,rfl⟩,h.symm⟩
noncomputable def LJ6:List az:=aTd::aQS::aRB::Nj::[]
theorem aV7:bd LJ6:=⟨aTz,aRt,aSp,J0,trivial⟩
noncomputable def a5A:List AV->Option (Option Prop×AV×List Ob)
 | [.k (.list (.list .q)) M,.k (.list .bool) is]=>some (some (chE M is=0->NrG M is),T2 (.agg (.cons (.agg (.cons (.k (.list .q) (mfW M is)) (.cons (.k .q (mfB M is)) .nil))) (.cons (.k .q (mfD M is)) (.cons (.k (.list .q) (mfY M is)) .nil)))) (.k (.int .i64) (mfE M is)),[])
 | _=>none
noncomputable def aT3:az:=⟨6,false,a5A⟩
noncomputable def aVy (M:List (List Rat)) (is:List Bool):bk:=⟨nU,nL,nR,nU⟩
def aT4 (M:List (List Rat)) (is:List Bool):Prop:=
 let t1:=wyL M is (akv M is);
 bif !decide (chE M is=(0:Int)) then ((mfW M is=[]/\(0:Rat)=mfB M is)/\(0:Rat)=mfD M is/\mfY M is=[])/\chE M is=mfE M is else NrG M is/\MgG M is
 (akv M is)/\Sq BQ (dW t1 t1)/\bif decide ((dW t1 t1).num.sign=(0:Int)) then ((mfW M is=[]/\(0:Rat)=mfB M is)/\(0:Rat)=mfD M is/\mfY M is=[]) /\
 (8:Int)=mfE M is else ((wyL M is (akv M is)=mfW M is/\stQ M is (akv M is)=mfB M is)/\dW t1 t1=mfD M is/\akv M is=mfY M is)/\(0:Int)=mfE M is
theorem aUH (M:List (List Rat)) (is:List Bool):aw LJ6 [] (aVy M is) Tryz.f6 (T2 (.agg (.cons (.agg (.cons (.k (.list .q) (mfW M is)) (.cons (.k .q (mfB M is)) .nil))) (.cons (.k .q (mfD M is)) (.cons (.k (.list .q) (mfY M is)) .nil)))) (.k (.int .i64) (mfE M is))) [.k (.list (.list .q)) M,.k (.list .bool) is]=aT4 M is:=by kernel_rfl
theorem aUI (M:List (List Rat)) (is:List Bool) (hg:chE M is=0->NrG M is):aT4 M is:=by
 unfold aT4;dsimp only;refine dP (fun h=>aVx (aI h) h) fun h=>?_
 have g:=hg h;have hd:Sq 700000000 (dW (wyL M is (akv M is)) (wyL M is (akv M is))):=aVi g.mg.sw g.mg.sw g.mg.lw (by omega);refine ⟨g,g.mg,hd.le (by unfold BQ;omega),aH (fun h2=>?_) fun h2=>?_⟩
 ·have e:mfE M is=8:=by
   unfold mfE;rw [aV h];exact aV (aTF.1 h2)
  exact aVx e (by decide)
 ·have e:mfE M is=0:=by
   unfold mfE;rw [aV h];exact aI fun h3=>h2 (aTF.2 h3)
  exact aUq e
theorem aRD:aqn (cfg []) aT3:=cf aV7 bp Tryz.func6 fun a _ _ _ hc hg hf=>by change a5A a=_ at hc;unfold a5A at hc;split at hc <;> cases hc;cases aY (aUH _ _) (aUI _ _ hg);exact ⟨rfl,by kernel_rfl,_,by assumption⟩
def knM:List (List Rat):=[[((0:Int):Rat)],[((2:Int):Rat)]]
def knS:List Bool:=[false,true]
theorem aXY:chE knM knS=0:=by
 have h1:Shp knM knS:=⟨rfl,by decide,by decide,rfl⟩
 unfold chE;rw [aV h1,aI (by decide)];exact aI fun h=>absurd (h 1 (by decide)) (by decide)
theorem aVz:NrG knM knS:=by
 have i0:ax 0:=by unfold ax;omega
 have i2:ax 2:=by unfold ax;omega
 refine ⟨rfl,rfl,by decide,by decide,fun i=>match i with
  | 0=>asO i0
  | 1=>asO i2
  | _+2=>SL.nil (by omega),fun i j=>match i,j with
  | 0,0=>⟨0,by decide,by kernel_rfl⟩
  | 0,_+1=>⟨0,by decide,by kernel_rfl⟩
  | 1,0=>⟨24,by decide,by kernel_rfl⟩
  | 1,_+1=>⟨0,by decide,by kernel_rfl⟩
  | _+2,_=>⟨0,by decide,by kernel_rfl⟩,fun t=>match t with
  | true=>⟨1,by decide,rfl⟩
  | false=>⟨0,by decide,rfl⟩⟩
theorem aV8:cw (akv knM knS) 0=1/\cw (akv knM knS) 1=1:=by obtain ⟨_,_,lm,h⟩:=aVz.aVw;have h0:0+(if ub knS 0=false then cw (akv knM knS) 0 else 0)+(if ub knS 1=false then cw (akv knM knS) 1 else 0)=1:=h.sum false;have h1:0+(if ub knS 0=true then cw (akv knM knS) 0 else 0)+(if ub knS 1=true then cw (akv knM knS) 1 else 0)=1:=h.sum true;rw [aV (show ub knS 0=false from rfl),aI (show ¬ub knS 1=false by decide)] at h0;rw [aI (show ¬ub knS 0=true by decide),aV (show ub knS 1=true from rfl)] at h1;exact ⟨by grind,by grind⟩
theorem aVA:ptS knM knS (akv knM knS) true 2 0=2/\ptS knM knS (akv knM knS) false 2 0=0:=by
 obtain ⟨h0,h1⟩:=aV8;have e0:el knM 0 0=0:=by kernel_rfl
 have e1:el knM 1 0=2:=by kernel_rfl
 constructor
 ·show 0+(if ub knS 0=true then el knM 0 0*cw (akv knM knS) 0 else 0)+(if ub knS 1=true then el knM 1 0*cw (akv knM knS) 1 else 0)=2;rw [aI (show ¬ub knS 0=true by decide),aV (show ub knS 1=true from rfl),h1,e1];grind
 ·show 0+(if ub knS 0=false then el knM 0 0*cw (akv knM knS) 0 else 0)+(if ub knS 1=false then el knM 1 0*cw (akv knM knS) 1 else 0)=0;rw [aV (show ub knS 0=false from rfl),aI (show ¬ub knS 1=false by decide),h0,e0];grind
theorem aVB (t:Bool):ptL knM knS (akv knM knS) t=[ptS knM knS (akv knM knS) t 2 0]:=rfl
theorem aVC:wyL knM knS (akv knM knS)=[2]:=by obtain ⟨h0,h1⟩:=aVA;have e:wyL knM knS (akv knM knS)=[ptS knM knS (akv knM knS) true 2 0-ptS knM knS (akv knM knS) false 2 0]:=rfl;rw [e,h0,h1];congr 1;grind
theorem aV9:mfE knM knS=0/\mfW knM knS=[2]/\mfB knM knS = -2/\mfD knM knS=4:=by
 have hd:aOu knM knS=4:=by unfold aOu;rw [aVC];kernel_rfl
 have he:mfE knM knS=0:=by unfold mfE;rw [aV aXY,hd];exact aI (by decide)
 obtain ⟨⟨⟨a1,a2⟩,a3,_⟩,_⟩:=aUq he;refine ⟨he,by rw [<-a1];exact aVC,?_,by rw [<-a3];exact hd⟩;rw [<-a2];unfold stQ;obtain ⟨h0,h1⟩:=aVA;rw [aVB,aVB,h0,h1];kernel_rfl
noncomputable def LJ7:List az:=aa5::aa9::aT3::[]
theorem aWa:bd LJ7:=⟨V5,WS,aRD,trivial⟩
def a3I:List AV->Option (Option Prop×AV×List Ob)
 | []=>some (none,.k .bool true,[])
 | _=>none
def aTG:az:=⟨8,false,a3I⟩
def aT5  : bk:=⟨nU,nL,nR,nU⟩
def aQT  : Prop:=
 let t1:=mfW [[(↑(0:Int):Rat)],[(↑(2:Int):Rat)]] [false,true];
 ax (0:Int)/\ax (2:Int)/\(chE [[(↑(0:Int):Rat)],[(↑(2:Int):Rat)]] [false,true]=(0:Int)->NrG [[(↑(0:Int):Rat)],[(↑(2:Int):Rat)]] [false,
 true])/\(t1.length<=aB->((0:Int)<=(0:Int)/\(0:Int)<(↑t1.length:Int))/\(Sq BQ (t1.getD (Int.toNat (0:Int)) (0:Rat))/\ax (2:Int)/\ax (1:Int)
 /\ (1:Int)≠(0:Int))/\(Sq BQ (mfB [[(↑(0:Int):Rat)],[(↑(2:Int):Rat)]] [false,true])/\ax (-2:Int)/\ax (1:Int)/\(1:Int)≠(0:Int))/\(Sq BQ
 (mfD [[(↑(0:Int):Rat)],[(↑(2:Int):Rat)]] [false,true])/\ax (4:Int)/\ax (1:Int)/\(1:Int)≠(0:Int))/\decide (mfD [[(↑(0:Int):Rat)],[(↑(2 :
 Int):Rat)]] [false,true]=(↑(4:Int):Rat)/(↑(1:Int):Rat))=true)
theorem aTH  : aw LJ7 [] (aT5 ) Tryz.f8 (.k .bool true) []=aQT  :=by kernel_rfl
theorem aTJ  (hf:cJ []):aQT  :=by
 obtain ⟨e0,e1,e2,e3⟩:=aV9;have i0:ax 0:=by unfold ax;omega
 have i1:ax 1:=by unfold ax;omega
 have i2:ax 2:=by unfold ax;omega
 have im:ax (-2):=by unfold ax;omega
 have i4:ax 4:=by unfold ax;omega
 have hB:(256:Nat)<=BQ:=by unfold BQ;omega
 unfold aQT;dsimp only;change ax 0/\ax 2/\(chE knM knS=0->NrG knM knS)/\((mfW knM knS).length<=aB->(_/\(0:Int)<((mfW knM knS).length:Int))/\(Sq BQ ((mfW knM knS).getD _ 0)/\_)/\(Sq BQ (mfB knM knS)/\_)/\(Sq BQ (mfD knM knS)/\_)/\decide (mfD knM knS=_)=true)
 rw [e1,e2,e3];exact ⟨i0,i2,fun _=>aVz,fun _=>⟨⟨by omega,by decide⟩,⟨(arz i2).le hB,i2,i1,by decide⟩,⟨(arz im).le hB,im,i1,by decide⟩,⟨(arz i4).le hB,i4,i1,by decide⟩,by kernel_rfl⟩⟩
theorem aTK:aqn (cfg []) aTG:=cf aWa bp Tryz.func8 fun a _ _ _ hc hg hf=>by change a3I a=_ at hc;unfold a3I at hc;split at hc <;> cases hc;cases aY (aTH ) (aTJ  hf);exact ⟨rfl,by kernel_rfl,_,by assumption⟩
def joB (M:List (List Rat)) (is:List Bool) (b:List Rat):Bool:=bif decide (WtP b is) then decide (ptL M is b true=ptL M is b false) else false
def PrP (M:List (List Rat)) (is:List Bool) (W:List Rat) (B D:Rat) (Y:List Rat):Prop:=WtP Y is/\W=wyL M is Y/\B=stQ M is Y/\D=dW (wyL M is Y) (wyL M is Y)/\0<D/\∀i,i<M.length->aGr M is Y i=false
instance (M:List (List Rat)) (is:List Bool) (W:List Rat) (B D:Rat) (Y:List Rat):Decidable (PrP M is W B D Y):=by unfold PrP;infer_instance
def PrC (M:List (List Rat)) (is:List Bool) (W:List Rat) (B D:Rat) (Y:List Rat):Prop:=chE M is=0/\PrP M is W B D Y
instance (M:List (List Rat)) (is:List Bool) (W:List Rat) (B D:Rat) (Y:List Rat):Decidable (PrC M is W B D Y):=by unfold PrC;infer_instance
def SlP (W V:List Rat) (B A:Rat):Prop:=W=V/\B=A
instance (W V:List Rat) (B A:Rat):Decidable (SlP W V B A):=by unfold SlP;infer_instance
def SmP (W V:List Rat) (B A D E:Rat):Prop:=W=V/\B=A/\D=E
instance (W V:List Rat) (B A D E:Rat):Decidable (SmP W V B A D E):=by unfold SmP;infer_instance
noncomputable def meE (M:List (List Rat)) (is:List Bool):Int:=if chE M is=0 then (if joB M is (akv M is)=true then 0 else 7) else chE M is
noncomputable def meY (M:List (List Rat)) (is:List Bool):List Rat:=if meE M is=0 then akv M is else []
theorem NrG.wt {M:List (List Rat)} {is:List Bool} (h:NrG M is):WtP (akv M is) is:=by
 obtain ⟨a1,a2,lm,O⟩:=h.aVw;refine ⟨by rw [a1,h.len],fun i _=>a2.nn i,?_,?_⟩
 ·rw [a1];exact O.sum true
 ·rw [a1];exact O.sum false
structure NyG (M:List (List Rat)) (is:List Bool) (b:List Rat):Prop where
 nr:chE M is=0->NrG M is
 n24:b.length<=24
 sb:SL GB b
theorem NyG.mg {M:List (List Rat)} {is:List Bool} {b:List Rat} (h:NyG M is b) (h0:chE M is=0) (hw:WtP b is):MgG M is b:=by have g:=h.nr h0;exact ⟨g.right,g.len,g.n24,g.w3,g.sM,by rw [hw.1,g.len],h.sb⟩
theorem NrG.ny {M:List (List Rat)} {is:List Bool} (h:NrG M is):NyG M is (akv M is):=⟨fun _=>h,by rw [h.aVw.1];exact h.n24,h.mg.sb⟩
noncomputable def aZM:List az:=ND::Ke::[]
theorem aZx:bd aZM:=⟨KP,z7,trivial⟩
def a3L:List AV->Option (Option Prop×AV×List Ob)
 | [.agg (.cons (.k (.list .q) W) (.cons (.k .q B) .nil)),.agg (.cons (.k (.list .q) V) (.cons (.k .q A) .nil))]=>some (some ((SL BQ W/\SL BQ V)/\Sq BQ B/\Sq BQ A),.k .bool (decide (SlP W V B A)),[])
 | _=>none
def aYc:az:=⟨26,false,a3L⟩
def aYU (W:List Rat) ( B:Rat) (V:List Rat) ( A:Rat):bk:=⟨nU,nL,nR,nU⟩
def aXa (W:List Rat) ( B:Rat) (V:List Rat) ( A:Rat):Prop:=(SL BQ W/\SL BQ V)/\bif decide (W=V) then (Sq BQ B/\Sq BQ A)/\decide (fS B A=(0:Int))=decide (SlP W V B A) else false=decide (SlP W V B A)
theorem aYd (W:List Rat) ( B:Rat) (V:List Rat) ( A:Rat):aw aZM [] (aYU W B V A) Tryz.f26 (.k .bool (decide (SlP W V B A))) [.agg (.cons (.k (.list .q) W) (.cons (.k .q B) .nil)),.agg (.cons (.k (.list .q) V) (.cons (.k .q A) .nil))]=aXa W B V A:=by kernel_rfl
theorem aYg (W:List Rat) ( B:Rat) (V:List Rat) ( A:Rat) (hg:(SL BQ W/\SL BQ V)/\Sq BQ B/\Sq BQ A):aXa W B V A:=by obtain ⟨h1,h2⟩:=hg;unfold aXa;refine ⟨h1,aH (fun e=>⟨h2,xW.2 ⟨fun h=>⟨e,gz.1 h⟩,fun h=>gz.2 h.2⟩⟩) fun e=>(eJ fun h=>e h.1).symm⟩
theorem aYh:aqn (cfg []) aYc:=cf aZx bp Tryz.func26 fun a _ _ _ hc hg hf=>by change a3L a=_ at hc;unfold a3L at hc;split at hc <;> cases hc;cases aY (aYd _ _ _ _) (aYg _ _ _ _ hg);exact ⟨rfl,by kernel_rfl,_,by assumption⟩
noncomputable def a0g:List az:=aYc::Ke::[]
theorem aZN:bd a0g:=⟨aYh,z7,trivial⟩
def a3M:List AV->Option (Option Prop×AV×List Ob)
 | [.agg (.cons (.agg (.cons (.k (.list .q) W) (.cons (.k .q B) .nil))) (.cons (.k .q D) (.cons (.k (.list .q) Y) .nil))),.agg (.cons (.agg (.cons (.k (.list .q) V) (.cons (.k .q A) .nil))) (.cons (.k .q E) (.cons (.k (.list .q) Z) .nil)))]=>some (some (((SL BQ W/\SL BQ V)/\Sq BQ B/\Sq BQ A)/\Sq BQ D/\Sq BQ E),.k .bool (decide (SmP W V B A D E)),[])
 | _=>none
def aYi:az:=⟨10,false,a3M⟩
def aYV (W:List Rat) ( B  D:Rat) ( Y V:List Rat) ( A  E:Rat) ( Z:List Rat):bk:=⟨nU,nL,nR,nU⟩
def aXb (W:List Rat) ( B  D:Rat) ( Y V:List Rat) ( A  E:Rat) ( Z:List Rat):Prop:=((SL BQ W/\SL BQ V)/\Sq BQ B/\Sq BQ A)/\bif decide (SlP W V B A) then (Sq BQ D/\Sq BQ E)/\decide (fS D E=(0:Int))=decide (SmP W V B A D E) else false =
 decide (SmP W V B A D E)
theorem aYj (W:List Rat) ( B  D:Rat) ( Y V:List Rat) ( A  E:Rat) ( Z:List Rat):aw a0g [] (aYV W B D Y V A E Z) Tryz.f10 (.k .bool (decide (SmP W V B A D E))) [.agg (.cons (.agg (.cons (.k (.list .q) W) (.cons (.k .q B) .nil))) (.cons (.k .q D) (.cons (.k (.list .q) Y) .nil))),.agg (.cons (.agg (.cons (.k (.list .q) V) (.cons (.k .q A) .nil))) (.cons (.k .q E) (.cons (.k (.list .q) Z) .nil)))]=aXb W B D Y V A E Z:=by kernel_rfl
theorem aYk (W:List Rat) ( B  D:Rat) ( Y V:List Rat) ( A  E:Rat) ( Z:List Rat) (hg:((SL BQ W/\SL BQ V)/\Sq BQ B/\Sq BQ A)/\Sq BQ D/\Sq BQ E) (hf:cJ [.agg (.cons (.agg (.cons (.k (.list .q) W) (.cons (.k .q B) .nil))) (.cons (.k .q D) (.cons (.k (.list .q) Y) .nil))),.agg (.cons (.agg (.cons (.k (.list .q) V) (.cons (.k .q A) .nil))) (.cons (.k .q E) (.cons (.k (.list .q) Z) .nil)))]):aXb W B D Y V A E Z:=by obtain ⟨h1,h2⟩:=hg;unfold aXb;refine ⟨h1,aH (fun e=>⟨h2,xW.2 ⟨fun h=>⟨e.1,e.2,gz.1 h⟩,fun h=>gz.2 h.2.2⟩⟩) fun e=>(eJ fun h=>e ⟨h.1,h.2.1⟩).symm⟩
theorem aYl:aqn (cfg []) aYi:=cf aZN bp Tryz.func10 fun a _ _ _ hc hg hf=>by change a3M a=_ at hc;unfold a3M at hc;split at hc <;> cases hc;cases aY (aYj _ _ _ _ _ _ _ _) (aYk _ _ _ _ _ _ _ _ hg hf);exact ⟨rfl,by kernel_rfl,_,by assumption⟩
noncomputable def aZe:List az:=aYi::aTd::aWJ::aRA::aVm::aRB::aQS::ND::Nj::Ke::[]
theorem aXc:bd aZe:=⟨aYl,aTz,aW8,aSj,aUE,aSp,aRt,KP,J0,z7,trivial⟩
def a3N:List AV->Option (Option Prop×AV×List Ob)
 | [.k (.list .q) b,.k (.list (.list .q)) M,.k (.list .bool) is]=>some (some (NyG M is b),.k .bool (bif decide (chE M is=0) then joB M is b else false),[])
 | _=>none
def aXd:az:=⟨19,false,a3N⟩
def aYW (b:List Rat) (M:List (List Rat)) (is:List Bool):bk:=⟨nU,nL,nR,nU⟩
def aXe (b:List Rat) (M:List (List Rat)) (is:List Bool):Prop:=bif !decide (chE M is=(0:Int)) then false=bif decide (chE M is=(0:Int)) then joB M is b else false else (b.length<=(24:Nat)/\SL GB b)/\bif !decide (WtP b
 is) then false=bif decide (chE M is=(0:Int)) then joB M is b else false else MgG M is b/\(SL BQ (ptL M is b true)/\SL BQ (ptL M is b false))/\decide (ptL M is b
 true=ptL M is b false)=bif decide (chE M is=(0:Int)) then joB M is b else false
theorem aYm (b:List Rat) (M:List (List Rat)) (is:List Bool):aw aZe [] (aYW b M is) Tryz.f19 (.k .bool (bif decide (chE M is=0) then joB M is b else false)) [.k (.list .q) b,.k (.list (.list .q)) M,.k (.list .bool) is]=aXe b M is:=by kernel_rfl
theorem aYn (b:List Rat) (M:List (List Rat)) (is:List Bool) (hg:NyG M is b):aXe b M is:=by have n1:=hg.n24;have n2:=hg.sb;unfold aXe;refine dP (fun h=>by rw [eJ h,pK]) fun h=>?_;rw [jW h,gA];unfold joB;refine ⟨⟨n1,n2⟩,dP (fun h2=>by rw [eJ h2,pK]) fun h2=>?_⟩;rw [jW h2,gA];have g:=hg.mg h h2;exact ⟨g,⟨(g.sp true).le (by unfold BQ;omega),(g.sp false).le (by unfold BQ;omega)⟩,rfl⟩
theorem aWL:aqn (cfg []) aXd:=cf aXc bp Tryz.func19 fun a _ _ _ hc hg hf=>by change a3N a=_ at hc;unfold a3N at hc;split at hc <;> cases hc;cases aY (aYm _ _ _) (aYn _ _ _ hg);exact ⟨rfl,by kernel_rfl,_,by assumption⟩
def a3O:List AV->Option (Option Prop×AV×List Ob)
 | [.agg (.cons (.agg (.cons (.k (.list .q) W) (.cons (.k .q B) .nil))) (.cons (.k .q D) (.cons (.k (.list .q) Y) .nil))),.k (.list (.list .q)) M,.k (.list .bool) is]=>some (some (NyG M is Y/\SL BQ W/\Sq BQ B/\Sq BQ D),.k .bool (decide (PrC M is W B D Y)),[])
 | _=>none
def aYo:az:=⟨11,false,a3O⟩
def aYX (W:List Rat) ( B  D:Rat) ( Y:List Rat) (M:List (List Rat)) (is:List Bool):bk:=⟨fun key_=>match key_ with | 3=>6 | _=>0,fun key_=>match key_ with
 | 8=>some (⟨Nat,fun i=>[(2,.k (.list .bool) is),(7,.k (.list .q) (ptL M is Y true)),(8,.k (.list .q) (ptL M is Y false)),(9,.k (.list .q) W),(48,.k (.list (.list .q)) M),(49,.k (.int .i64) ((M.length:Nat):Int)),(50,.k (.int .i64) ((i:Nat):Int))],
 fun _=>[],fun _ i=>i<=M.length/\∀j,j<i->aGr M is Y j=false,fun i=>M.length-i⟩) | _=>none,nR,nU⟩
def aUS (W:List Rat) ( B  D:Rat) ( Y:List Rat) (M:List (List Rat)) (is:List Bool) (x:Nat):Prop:=((0:Int)<=(↑x:Int)/\(↑x:Int)<(↑is.length:Int))/\bif !is.getD (↑x:Int).toNat false then (W.length=(M.getD (↑x:Int).toNat []).length/\lM W (M.getD (↑x
 : Int).toNat []))/\(W.length=(ptL M is Y false).length/\lM W (ptL M is Y false))/\(Sq BQ (dW W (M.getD (↑x:Int).toNat []))/\Sq BQ (dW W (ptL M is Y false)))
 /\ bif decide ((0:Int)<fS (dW W (M.getD (↑x:Int).toNat [])) (dW W (ptL M is Y false))) then false=decide (PrC M is W B D Y) else ax ((↑x:Int)+(1 :
 Int))/\∃(x':Nat),(is=is/\ptL M is Y true=ptL M is Y true/\ptL M is Y false=ptL M is Y false/\W=W/\M=M/\(↑M.length:Int)=(↑M.length:Int)/\(↑x :
 Int)+(1:Int)=(↑x':Int))/\(x'<=M.length/\∀(j:Nat),j<x'->aGr M is Y j=false)/\M.length-x'<M.length-x else ax ((↑x:Int)+(1:Int))/\∃(x'
 : Nat),(is=is/\ptL M is Y true=ptL M is Y true/\ptL M is Y false=ptL M is Y false/\W=W/\M=M/\(↑M.length:Int)=(↑M.length:Int)/\(↑x:Int)+(1 :
 Int)=(↑x':Int))/\(x'<=M.length/\∀(j:Nat),j<x'->aGr M is Y j=false)/\M.length-x'<M.length-x
def aXf (W:List Rat) ( B  D:Rat) ( Y:List Rat) (M:List (List Rat)) (is:List Bool):Prop:=bif !decide (chE M is=(0:Int)) then false=decide (PrC M is W B D Y) else (Y.length<=(24:Nat)/\SL GB Y)/\bif !decide (WtP Y is) then false=decide (PrC M is W
 B D Y) else MgG M is Y/\(((SL BQ W/\SL BQ (wyL M is Y))/\Sq BQ B/\Sq BQ (stQ M is Y))/\Sq BQ D/\Sq BQ (dW (wyL M is Y) (wyL M is Y)))/\bif !decide (SmP W (wyL M
 is Y) B (stQ M is Y) D (dW (wyL M is Y) (wyL M is Y))) then false=decide (PrC M is W B D Y) else Sq BQ D/\bif decide (D.num.sign<=(0:Int)) then false=decide
 (PrC M is W B D Y) else MgG M is Y/\(M.length<=aB->∃(x0:Nat),(is=is/\ptL M is Y true=ptL M is Y true/\ptL M is Y false=ptL M is Y false/\W=W/\M=M /\
 (↑M.length:Int)=(↑M.length:Int)/\(0:Int)=(↑x0:Int))/\(x0<=M.length/\∀(j:Nat),j<x0->aGr M is Y j=false)/\∀(x:Nat),
 let u1:=M.getD (↑x:Int).toNat [];(x<=M.length/\∀(j:Nat),j<x->aGr M is Y j=false)->bif decide ((↑x:Int)<(↑M.length:Int)) then ((0:Int)<=(↑x :
 Int)/\(↑x:Int)<(↑M.length:Int))/\((0:Int)<=(↑x:Int)/\(↑x:Int)<(↑is.length:Int))/\bif is.getD (↑x:Int).toNat false then (W.length=u1.length/\lM
 W u1)/\(W.length=(ptL M is Y true).length/\lM W (ptL M is Y true))/\(Sq BQ (dW W u1)/\Sq BQ (dW W (ptL M is Y true)))/\bif decide (fS (dW W u1) (dW W
 (ptL M is Y true))<(0:Int)) then false=decide (PrC M is W B D Y) else aUS W B D Y M is x else aUS W B D Y M is x else true=decide (PrC M is W B D Y))
theorem aYp (W:List Rat) ( B  D:Rat) ( Y:List Rat) (M:List (List Rat)) (is:List Bool):aw aZe [] (aYX W B D Y M is) Tryz.f11 (.k .bool (decide (PrC M is W B D Y))) [.agg (.cons (.agg (.cons (.k (.list .q) W) (.cons (.k .q B) .nil))) (.cons (.k .q D) (.cons (.k (.list .q) Y) .nil))),.k (.list (.list .q)) M,.k (.list .bool) is]=aXf W B D Y M is:=by kernel_rfl
theorem aYq (W:List Rat) ( B  D:Rat) ( Y:List Rat) (M:List (List Rat)) (is:List Bool) (hg:NyG M is Y/\SL BQ W/\Sq BQ B/\Sq BQ D):aXf W B D Y M is:=by
 obtain ⟨hy,sW,sB,sD⟩:=hg;have n1:=hy.n24;have n2:=hy.sb;unfold aXf;dsimp only;refine dP (fun h=>(eJ fun e=>h e.1).symm) fun h=>⟨⟨n1,n2⟩,dP (fun h2=>(eJ fun e=>h2 e.2.1).symm) fun h2=>?_⟩
 have g:=hy.mg h h2;obtain ⟨m1,m2,m3⟩:=ba g.right;have hl:=g.len;have h24:=g.n24;have hd:∀t,Sq 700000000 (dW (ptL M is Y t) (ptL M is Y t)):=fun t=>aVi (g.sp t) (g.sp t) (g.lp t) (by omega);have hw:Sq 700000000 (dW (wyL M is Y) (wyL M is Y)):=aVi g.sw g.sw g.lw (by omega);have hs:Sq BQ (stQ M is Y):=by unfold stQ;exact (((hd false).sub (hd true)).div (k:=64) Sq.atH (by decide)).le (by unfold BQ;omega)
 have hp:∀t,Sq BQ (dW (wyL M is Y) (ptL M is Y t)):=fun t=>(aVi g.sw (g.sp t) g.lw (by omega)).le (by unfold BQ;omega);have hr:∀i,Sq BQ (dW (wyL M is Y) (M.getD i [])):=fun i=>(aVi g.sw (g.sM i) g.lw (by omega)).le (by unfold BQ;omega);refine ⟨g,⟨⟨⟨sW,g.sw.le (by unfold BQ;omega)⟩,sB,hs⟩,sD,hw.le (by unfold BQ;omega)⟩,dP (fun h3=>(eJ fun e=>h3 ⟨e.2.2.1,e.2.2.2.1,e.2.2.2.2.1⟩).symm) fun h3=>?_⟩;obtain ⟨rfl,rfl,rfl⟩:=h3;refine ⟨sD,aH (fun h4=>(eJ fun e=>?_).symm) fun h4=>?_⟩
 ·have:=aUp.2 e.2.2.2.2.2.1;omega
 have hD:0<dW (wyL M is Y) (wyL M is Y):=aUp.1 (by omega);refine ⟨g,fun _=>⟨0,⟨rfl,rfl,rfl,rfl,rfl,rfl,rfl⟩,⟨fi _,fun j hj=>absurd hj (fK j)⟩,fun k ⟨hk,bB⟩=>aH (fun h5=>?_) fun h5=>(jW ⟨h,h2,rfl,rfl,rfl,hD,fun j hj=>bB j (by omega)⟩).symm⟩⟩;have sF:k<M.length:=by omega
 have nT:aGr M is Y k=false->∀j,j<k+1->aGr M is Y j=false:=fun h6 j hj=>by
  rcases bX j k with h7 | h7
  ·exact bB j h7
  ·rw [show j=k by omega];exact h6
 have aYr:aGr M is Y k=true->false=decide (PrC M is (wyL M is Y) (stQ M is Y) (dW (wyL M is Y) (wyL M is Y)) Y):=fun h6=>(eJ fun e=>by have:=e.2.2.2.2.2.2 k sF;rw [h6] at this;cases this).symm;refine ⟨⟨by omega,h5⟩,⟨by omega,by omega⟩,?_⟩;unfold aUS;rw [show is.getD ((k:Nat):Int).toNat false=ub is k from rfl,show M.getD ((k:Nat):Int).toNat []=M.getD k [] from rfl];have rl:(wyL M is Y).length=(M.getD k []).length:=by rw [aVh];exact (m3 k sF).symm
 have dr:lM (wyL M is Y) (M.getD k []):=aSg g.sw (g.sM k) g.lw (by omega);have pl:∀t,(wyL M is Y).length=(ptL M is Y t).length:=fun t=>by rw [aVh,aQP]
 have dp:∀t,lM (wyL M is Y) (ptL M is Y t):=fun t=>aSg g.sw (g.sp t) g.lw (by omega)
 cases e:ub is k with
 | true=>refine ⟨⟨rl,dr⟩,⟨pl true,dp true⟩,⟨hr k,hp true⟩,aH (fun h6=>aYr (by unfold aGr;rw [aV e];exact jW (aUR.1 h6))) fun h6=>⟨⟨by omega,by omega⟩,?_⟩⟩;rw [show (!true)=false from rfl,pK];exact ⟨by unfold ax;omega,k+1,⟨rfl,rfl,rfl,rfl,rfl,rfl,rfl⟩,⟨sF,nT (by unfold aGr;rw [aV e];exact eJ fun h7=>h6 (aUR.2 h7))⟩,by omega⟩
 | false=>
  refine ⟨⟨by omega,by omega⟩,?_⟩;rw [show (!false)=true from rfl,gA];have en:¬ub is k=true:=by rw [e];decide
  exact ⟨⟨rl,dr⟩,⟨pl false,dp false⟩,⟨hr k,hp false⟩,aH (fun h6=>aYr (by unfold aGr;rw [aI en];exact jW (aWO.1 h6))) fun h6=>⟨by unfold ax;omega,k+1,⟨rfl,rfl,rfl,rfl,rfl,rfl,rfl⟩,⟨sF,nT (by unfold aGr;rw [aI en];exact eJ fun h7=>h6 (aWO.2 h7))⟩,by omega⟩⟩
theorem aYs:aqn (cfg []) aYo:=cf aXc bp Tryz.func11 fun a _ _ _ hc hg hf=>by change a3O a=_ at hc;unfold a3O at hc;split at hc <;> cases hc;cases aY (aYp _ _ _ _ _ _) (aYq _ _ _ _ _ _ hg);exact ⟨rfl,by kernel_rfl,_,by assumption⟩
noncomputable def a0h:List az:=aXd::aZe
theorem aZO:bd a0h:=⟨aWL,aXc⟩
noncomputable def a4E:List AV->Option (Option Prop×AV×List Ob)
 | [.k (.list (.list .q)) M,.k (.list .bool) is]=>some (some (chE M is=0->NrG M is),T2 (.k (.list .q) (meY M is)) (.k (.int .i64) (meE M is)),[])
 | _=>none
noncomputable def aZf:az:=⟨16,false,a4E⟩
noncomputable def aZy (M:List (List Rat)) (is:List Bool):bk:=⟨nU,nL,nR,nU⟩
def aXQ (M:List (List Rat)) (is:List Bool):Prop:=bif !decide (chE M is=(0:Int)) then meY M is=[]/\chE M is=meE M is else NrG M is/\NyG M is (akv M is)/\bif !bif decide (chE M is=(0:Int)) then joB M is
 (akv M is) else false then meY M is=[]/\(7:Int)=meE M is else akv M is=meY M is/\(0:Int)=meE M is
theorem aYY (M:List (List Rat)) (is:List Bool):aw a0h [] (aZy M is) Tryz.f16 (T2 (.k (.list .q) (meY M is)) (.k (.int .i64) (meE M is))) [.k (.list (.list .q)) M,.k (.list .bool) is]=aXQ M is:=by kernel_rfl
theorem aYZ (M:List (List Rat)) (is:List Bool) (hg:chE M is=0->NrG M is):aXQ M is:=by
 unfold aXQ;refine dP (fun h=>?_) fun h=>?_
 ·have e:meE M is=chE M is:=aI h;exact ⟨aI (by rw [e];exact h),e.symm⟩
 ·have g:=hg h;refine ⟨g,g.ny,?_⟩;rw [jW h,gA]
  cases hj:joB M is (akv M is) with
  | true=>
   have e:meE M is=0:=by unfold meE;rw [aV h,aV hj]
   rw [show (!true)=false from rfl,pK];exact ⟨(aV e).symm,e.symm⟩
  | false=>
   have e:meE M is=7:=by unfold meE;rw [aV h,aI (by rw [hj];decide)]
   rw [show (!false)=true from rfl,gA];exact ⟨aI (by rw [e];decide),e.symm⟩
theorem aY0:aqn (cfg []) aZf:=cf aZO bp Tryz.func16 fun a _ _ _ hc hg hf=>by change a4E a=_ at hc;unfold a4E at hc;split at hc <;> cases hc;cases aY (aYY _ _) (aYZ _ _ hg);exact ⟨rfl,by kernel_rfl,_,by assumption⟩
theorem aXZ {n m i j:Nat} {F:Nat->Nat->Rat}:el (aG n m F) i j=if i<n/\j<m then F i j else 0:=by
 by_cases h:i<n/\j<m
 ·rw [aV h];exact Ny h.1 h.2
 ·rw [aI h];unfold el;by_cases hi:i<n
  ·rw [na hi,mZ (by rw [mX];omega)]
  ·rw [mZ (xs:=aG n m F) (by rw [mkM_len];omega)];rfl
section
variable {M:List (List Rat)} {is:List Bool}
theorem aZR (M:List (List Rat)) (is:List Bool) (b:List Rat):dW (wyL M is b) (wyL M is b)=fMg M.length (al M) (vMg M is) (cw b):=by
 unfold dW;rw [aVh];exact uv fun j hj=>by unfold wyL;rw [fW hj,a06]
theorem aZS {b:List Rat}:dW (wyL M is b) (wyL M is b)=0↔ptL M is b true=ptL M is b false:=by
 rw [aZR];constructor
 ·intro h;refine bE fun j hj=>?_;have h1:=aNS (d:=dMg M.length (vMg M is) (cw b)) h j hj;rw [<-a06] at h1;grind
 ·intro h;refine acj fun j hj=>?_;have h1:(ptL M is b true).getD j 0=(ptL M is b false).getD j 0:=by rw [h]
  rw [aUo true hj,aUo false hj] at h1;have h2:dMg M.length (vMg M is) (cw b) j=0:=by rw [<-a06,h1];grind
  rw [h2,xD]
theorem NrG.jo (h:NrG M is):joB M is (akv M is)=decide (aOu M is=0):=by unfold joB;rw [jW h.wt,gA];exact xW.2 aZS.symm
theorem a0d (h:NrG M is) (h0:chE M is=0) (h1:aOu M is=0):meE M is=0/\meY M is=akv M is:=by
 have e:meE M is=0:=by unfold meE;rw [aV h0,h.jo,aV (jW h1)]
 exact ⟨e,aV e⟩
theorem aZT (h:NrG M is) (h0:chE M is=0) (h1:aOu M is≠0):meE M is=7/\meY M is=[]:=by
 have e:meE M is=7:=by unfold meE;rw [aV h0,h.jo,aI (by rw [eJ h1];decide)]
 exact ⟨e,aI (by rw [e];decide)⟩
end
section
variable {n w:Nat} {v:Nat->Nat->Rat} {s:Nat->Bool} {b b':Nat->Rat} {lm lm':Bool->Rat}
theorem OpW.hi (h:OpW n w v s b lm) (t:Bool):hiW n w v s b t=lm t:=by
 have e:hiW n w v s b t=apV (fun i=>lm t*(if s i=t then b i else 0)) n:=uv fun i hi=>by
  by_cases ht:s i=t
  ·rw [aV ht,aV ht];by_cases hp:0<b i
   ·rw [h.act i hi hp,ht,yo]
   ·have:b i=0:=by have:=h.nn i hi;grind
    rw [this,xD,CT]
  ·rw [aI ht,aI ht,CT]
 have h2:=h.sum t;unfold sdS at h2;rw [e,abC,h2,GV]
theorem OpW.ex (h:OpW n w v s b lm) (t:Bool):∃i,i<n/\s i=t/\0<b i:=yP fun hn=>by
 have h1:sdS n s t b=0:=acj fun i hi=>by
  by_cases e:s i=t
  ·rw [aV e];have h2:=h.nn i hi;have h3:¬0<b i:=fun h4=>hn ⟨i,hi,e,h4⟩;grind
  ·rw [aI e]
 rw [h.sum] at h1;grind
theorem aZ1 (e:∀j,j<w->dMg n v b j=dMg n v b' j) (i:Nat):gMg n w v b i=gMg n w v b' i:=uv fun j hj=>by rw [e j hj]
theorem OpW.a0f (h:OpW n w v s b lm) (h':OpW n w v s b' lm') (e:∀j,j<w->dMg n v b j=dMg n v b' j) (t:Bool):lm' t<=lm t:=by obtain ⟨i,hi,hs,hp⟩:=h.ex t;have h1:=h.act i hi hp;have h2:=h'.all i hi;rw [hs] at h1 h2;rw [<-aZ1 e i,h1] at h2;exact h2
theorem OpW.a0n (h:OpW n w v s b lm) (h':OpW n w v s b' lm') (t:Bool):lm t=lm' t:=by have e:=h'.uniq h;exact Rat.le_antisymm (h'.a0f h (fun j hj=>(e j hj).symm) t) (h.a0f h' e t)
end
section
variable {M:List (List Rat)} {is:List Bool} {b b':List Rat} {lm lm':Bool->Rat}
theorem aWT (h:OpW M.length (al M) (vMg M is) (ub is) (cw b) lm):stQ M is b=(lm false-lm true)/((2:Int):Rat):=by
 have h1:=aXh M is b true;have h2:=aXh M is b false;rw [aV rfl,h.hi] at h1;rw [aI (by decide),h.hi] at h2;have e:dW (ptL M is b false) (ptL M is b false)=dW (ptL M is b true) (ptL M is b true) + -(dW (wyL M is b) (ptL M is b true)+dW (wyL M is b) (ptL M is b false)):=by
  unfold dW;rw [aQP,aQP,aVh, <- acw, <- aTD, <- acw];exact uv fun j hj=>by rw [aUo true hj,aUo false hj];unfold wyL;rw [fW hj];grind
 unfold stQ;rw [e,h1,h2];congr 1;grind
theorem aY7 (h:OpW M.length (al M) (vMg M is) (ub is) (cw b) lm) (h':OpW M.length (al M) (vMg M is) (ub is) (cw b') lm'):wyL M is b=wyL M is b'/\stQ M is b=stQ M is b':=by
 refine ⟨bE fun j hj=>?_,?_⟩
 ·rw [a06,a06];exact h'.uniq h j hj
 ·rw [aWT h,aWT h',h.a0n h',h.a0n h']
end
def twM (l:List Int) (n:Nat):List (List Rat):=aG n 2 fun i j=>((l.getD (2*i+j) 0:Int):Rat)
def twL (l:List Int):List (List Rat):=twM l (l.length/2)
theorem a39 (l:List Int):(twL l).length=l.length/2:=mkM_len ..
theorem a7L {l:List Int} {is:List Bool} (h1:2<=l.length/\l.length<=48) (h2:∀i,(l.getD i 0).natAbs<64) (h3:is.length=l.length/2) (h4:∀t,∃i,i<l.length/2/\ub is i=t):NrG (twL l) is:=by
 have hp:0<l.length/2:=by omega
 have i6:∀i,ax (l.getD i 0):=fun i=>by have:=h2 i;unfold ax;omega
 refine ⟨Lh hp (by omega) _,by rw [a39];exact h3,by rw [a39];omega,by unfold twL twM;rw [tM hp];omega,fun i=>?_,fun i j=>?_,fun t=>by rw [a39];exact h4 t⟩
 ·by_cases hi:i<l.length/2
  ·unfold twL twM;rw [na hi];exact SL.mk (fun _ _=>arz (i6 _)) (by omega)
  ·rw [mZ (by rw [a39];omega)];exact SL.nil (by omega)
 ·unfold twL twM;rw [aXZ];by_cases hij:i<l.length/2/\j<2
  ·rw [aV hij];exact ⟨l.getD (2*i+j) 0*12,by have:=h2 (2*i+j);omega,by rw [G7];rfl⟩
  ·rw [aI hij];exact ⟨0,by decide,by rw [xD];rfl⟩
theorem a6t {P:Nat->Prop} (h0:P 0) (h1:P 1) (h2:P 2) (h3:P 3) (i:Nat) (h:i<4):P i:=
 match i with
 | 0=>h0
 | 1=>h1
 | 2=>h2
 | 3=>h3
 | n+4=>by omega
theorem a9Z {xs:List Rat} {a b c d:Rat} (h:xs.length=4) (h0:cw xs 0=a) (h1:cw xs 1=b) (h2:cw xs 2=c) (h3:cw xs 3=d):xs=[a,b,c,d]:=by
 match xs,h with
 | [x0,x1,x2,x3],_=>
  have h0:x0=a:=h0
  have h1:x1=b:=h1
  have h2:x2=c:=h2
  have h3:x3=d:=h3
  rw [h0,h1,h2,h3]
def hfQ:Rat:=(1:Rat)/2
def kxM:List (List Rat):=twL [0,0,0,2,3,1,5,5]
def kyM:List (List Rat):=twL [0,0,2,2,0,2,2,0]
def kS:List Bool:=[false,false,true,true]
def kxB:List Rat:=[hfQ,hfQ,1,0]
def kyB:List Rat:=[hfQ,hfQ,hfQ,hfQ]
theorem a8d:∀t,∃i,i<4/\ub kS i=t:=fun t=>match t with
 | true=>⟨2,by decide,rfl⟩
 | false=>⟨0,by decide,rfl⟩
theorem a4L:NrG kxM kS:=a7L (l:=[0,0,0,2,3,1,5,5]) (by decide) (fun i=>match i with
 | 0 | 1 | 2 | 3 | 4 | 5 | 6 | 7=>by decide
 | n+8=>by rw [mZ (by simp)];decide) rfl a8d
theorem a4P:NrG kyM kS:=a7L (l:=[0,0,2,2,0,2,2,0]) (by decide) (fun i=>match i with
 | 0 | 1 | 2 | 3 | 4 | 5 | 6 | 7=>by decide
 | n+8=>by rw [mZ (by simp)];decide) rfl a8d
theorem a7M:chE kxM kS=0:=by kernel_rfl
theorem a6Z:chE kyM kS=0:=by kernel_rfl
theorem a90:chE kxM [true,true,true,true]=7:=by kernel_rfl
def kxL (t:Bool):Rat:=if t then 9 else 0
theorem a92:OpW kxM.length (al kxM) (vMg kxM kS) (ub kS) (cw kxB) kxL where
 nn:=a6t (qX (by kernel_rfl)) (qX (by kernel_rfl)) (qX (by kernel_rfl)) (qX (by kernel_rfl))
 sum t:=match t with
  | true=>by kernel_rfl
  | false=>by kernel_rfl
 act:=a6t (fun _=>by kernel_rfl) (fun _=>by kernel_rfl) (fun _=>by kernel_rfl) (fun h=>absurd h (of_decide_eq_false (by kernel_rfl)))
 all:=a6t (qX (by kernel_rfl)) (qX (by kernel_rfl)) (qX (by kernel_rfl)) (qX (by kernel_rfl))
theorem a94:OpW kyM.length (al kyM) (vMg kyM kS) (ub kS) (cw kyB) fun _=>0 where
 nn:=a6t (qX (by kernel_rfl)) (qX (by kernel_rfl)) (qX (by kernel_rfl)) (qX (by kernel_rfl))
 sum t:=match t with
  | true=>by kernel_rfl
  | false=>by kernel_rfl
 act:=a6t (fun _=>by kernel_rfl) (fun _=>by kernel_rfl) (fun _=>by kernel_rfl) (fun _=>by kernel_rfl)
 all:=a6t (qX (by kernel_rfl)) (qX (by kernel_rfl)) (qX (by kernel_rfl)) (qX (by kernel_rfl))
theorem a60:wyL kxM kS (akv kxM kS)=[3,0]:=by obtain ⟨_,_,lm,O⟩:=a4L.aVw;rw [(aY7 O a92).1];kernel_rfl
theorem a95:wyL kyM kS (akv kyM kS)=[0,0]:=by obtain ⟨_,_,lm,O⟩:=a4P.aVw;rw [(aY7 O a94).1];kernel_rfl
theorem a61:aOu kyM kS=0:=by unfold aOu;rw [a95];kernel_rfl
theorem a62:aOu kxM kS=9:=by unfold aOu;rw [a60];kernel_rfl
theorem bbQ:ub kS 0=false/\ub kS 1=false/\ub kS 2=true/\ub kS 3=true:=⟨rfl,rfl,rfl,rfl⟩
theorem a57:akv kxM kS=kxB:=by
 obtain ⟨hl,_,lm,O⟩:=a4L.aVw;have hw:=a60;generalize akv kxM kS=b at *
 have e:wyL kxM kS b=[ptS kxM kS b true 4 0-ptS kxM kS b false 4 0,ptS kxM kS b true 4 1-ptS kxM kS b false 4 1]:=rfl;rw [e] at hw;have w0:=(List.cons.inj hw).1;have w1:=(List.cons.inj (List.cons.inj hw).2).1;have s0:0+(if ub kS 0=false then cw b 0 else 0)+(if ub kS 1=false then cw b 1 else 0)+(if ub kS 2=false then cw b 2 else 0)+(if ub kS 3=false then cw b 3 else 0)=1:=O.sum false;have s1:0+(if ub kS 0=true then cw b 0 else 0)+(if ub kS 1=true then cw b 1 else 0)+(if ub kS 2=true then cw b 2 else 0)+(if ub kS 3=true then cw b 3 else 0)=1:=O.sum true;have p:∀t j,ptS kxM kS b t 4 j=0+(if ub kS 0=t then el kxM 0 j*cw b 0 else 0)+(if ub kS 1=t then el kxM 1 j*cw b 1 else 0)+(if ub kS 2=t then el kxM 2 j*cw b 2 else 0)+(if ub kS 3=t then el kxM 3 j*cw b 3 else 0):=fun t j=>rfl;obtain ⟨u0,u1,u2,u3⟩:=bbQ;have e00:el kxM 0 0=0:=by kernel_rfl
 have e01:el kxM 0 1=0:=by kernel_rfl
 have e10:el kxM 1 0=0:=by kernel_rfl
 have e11:el kxM 1 1=2:=by kernel_rfl
 have e20:el kxM 2 0=3:=by kernel_rfl
 have e21:el kxM 2 1=1:=by kernel_rfl
 have e30:el kxM 3 0=5:=by kernel_rfl
 have e31:el kxM 3 1=5:=by kernel_rfl
 rw [p,p,u0,u1,u2,u3,e00,e10,e20,e30] at w0;rw [p,p,u0,u1,u2,u3,e01,e11,e21,e31] at w1;rw [u0,u1,u2,u3] at s0 s1;simp only [Bool.false_eq_true,Bool.true_eq_false,if_true,if_false,reduceCtorEq] at w0 w1 s0 s1;have b3:cw b 3=0:=by grind
 have b2:cw b 2=1:=by grind
 have b1:cw b 1=hfQ:=by unfold hfQ;grind
 have b0:cw b 0=hfQ:=by unfold hfQ at *;grind
 exact a9Z (hl.trans (a39 _)) b0 b1 b2 b3
theorem a8a:mfE kxM kS=0/\mfW kxM kS=[3,0]/\mfB kxM kS = -9/2/\mfD kxM kS=9/\mfY kxM kS=kxB:=by
 have he:mfE kxM kS=0:=by unfold mfE;rw [aV a7M,a62];exact aI (by decide)
 obtain ⟨⟨⟨a1,a2⟩,a3,a4⟩,_⟩:=aUq he;refine ⟨he,by rw [<-a1];exact a60,?_,by rw [<-a3];exact a62,by rw [<-a4];exact a57⟩;rw [<-a2,a57];kernel_rfl
theorem a8b:mfE kyM kS=8:=by unfold mfE;rw [aV a6Z,aV a61]
theorem a6Q:meE kyM kS=0/\meY kyM kS=akv kyM kS:=a0d a4P a6Z a61
theorem a7N:meE kxM kS=7:=(aZT a4L a7M (by rw [a62];decide)).1
section
variable {M M2:List (List Rat)} {S S2:List Bool}
end
def erC (W:List Rat):Int:=if 1<=W.length/\W.length<=20 then 0 else 5
def anY (W:List Rat) (B:Rat) (x:List Rat):Rat:=if W.length=x.length then dW W x+B else 0
def anE (W x:List Rat):Int:=if W.length=x.length then 0 else 5
def anS (W:List Rat) (B:Rat) (x:List Rat):Bool:=bif decide (W.length=x.length) then decide (0<dW W x+B) else false
def AnG (W:List Rat) (B:Rat) (x:List Rat):Prop:=lM W x/\Sq BQ (dW W x)/\Sq BQ B/\Sq BQ (dW W x+B)
noncomputable def a1s:List az:=[]
theorem a0z:bd a1s:=trivial
def a4Q:List AV->Option (Option Prop×AV×List Ob)
 | [.agg (.cons (.k (.list .q) W) (.cons (.k .q B) .nil))]=>some (none,.k (.int .i64) (erC W),[])
 | _=>none
def aX7:az:=⟨31,false,a4Q⟩
def a0A (W:List Rat) ( B:Rat):bk:=⟨nU,nL,nR,nU⟩
def aX8 (W:List Rat) ( B:Rat):Prop:=W.length<=aB->bif decide ((↑W.length:Int)<(1:Int)) then (5:Int)=erC W else W.length<=aB->bif decide ((20:Int)<(↑W.length:Int)) then (5:Int)=erC
 W else (0:Int)=erC W
theorem aZ2 (W:List Rat) ( B:Rat):aw a1s [] (a0A W B) Tryz.f31 (.k (.int .i64) (erC W)) [.agg (.cons (.k (.list .q) W) (.cons (.k .q B) .nil))]=aX8 W B:=by kernel_rfl
theorem aZ3 (W:List Rat) ( B:Rat) (hf:cJ [.agg (.cons (.k (.list .q) W) (.cons (.k .q B) .nil))]):aX8 W B:=by unfold aX8 erC;refine fun _=>aH (fun h=>(aI (by omega)).symm) fun h _=>aH (fun h2=>(aI (by omega)).symm) fun h2=>(aV (by omega)).symm
theorem aXH:aqn (cfg []) aX7:=cf a0z bp Tryz.func31 fun a _ _ _ hc hg hf=>by change a4Q a=_ at hc;unfold a4Q at hc;split at hc <;> cases hc;cases aY (aZ2 _ _) (aZ3 _ _ hf);exact ⟨rfl,by kernel_rfl,_,by assumption⟩
noncomputable def a1T:List az:=aX7::WU::xK::[]
theorem a1t:bd a1T:=⟨aXH,Q4,pI,trivial⟩
def a67:List AV->Option (Option Prop×AV×List Ob)
 | [.agg (.cons (.k (.list .q) W) (.cons (.k .q B) .nil)),.k (.list .q) x]=>some (some ((1<=W.length/\W.length<=20/\W.length=x.length)/\AnG W B x),T2 (.k .q (dW W x+B)) (.k (.int .i64) (0:Int)),[])
 | _=>none
def a0Q:az:=⟨32,false,a67⟩
def a1u (W:List Rat) ( B:Rat) (x:List Rat):bk:=⟨nU,nL,nR,nU⟩
def a0R (W:List Rat) ( B:Rat) (x:List Rat):Prop:=bif !decide (erC W=(0:Int)) then On (0:Int) (0:Nat)/\j6 (0:Int) (0:Nat)=dW W x+B/\(1:Int)=(0:Int) else (W.length=x.length->lM W x)/\bif
 !decide (W.length=x.length) then On (0:Int) (0:Nat)/\j6 (0:Int) (0:Nat)=dW W x+B/\(5:Int)=(0:Int) else (Sq BQ (if W.length=x.length then dW
 W x else (0:Rat))/\Sq BQ B)/\(if W.length=x.length then dW W x else (0:Rat))+B=dW W x+B/\(0:Int)=(0:Int)
theorem a1a (W:List Rat) ( B:Rat) (x:List Rat):aw a1T [] (a1u W B x) Tryz.f32 (T2 (.k .q (dW W x+B)) (.k (.int .i64) (0:Int))) [.agg (.cons (.k (.list .q) W) (.cons (.k .q B) .nil)),.k (.list .q) x]=a0R W B x:=by kernel_rfl
theorem a1b (W:List Rat) ( B:Rat) (x:List Rat) (hg:(1<=W.length/\W.length<=20/\W.length=x.length)/\AnG W B x):a0R W B x:=by obtain ⟨⟨h1,h2,h3⟩,h4,h5,h6,h7⟩:=hg;unfold a0R;have e:erC W=0:=aV ⟨h1,h2⟩;rw [aV h3];exact dP (fun h=>absurd e h) fun _=>⟨fun _=>h4,dP (fun h=>absurd h3 h) fun _=>⟨⟨h5,h6⟩,rfl,rfl⟩⟩
theorem aZJ:aqn (cfg []) a0Q:=cf a1t bp Tryz.func32 fun a _ _ _ hc hg hf=>by change a67 a=_ at hc;unfold a67 at hc;split at hc <;> cases hc;cases aY (a1a _ _ _) (a1b _ _ _ hg);exact ⟨rfl,by kernel_rfl,_,by assumption⟩
noncomputable def a1U:List az:=aX7::a0Q::Nj::[]
theorem a1v:bd a1U:=⟨aXH,aZJ,J0,trivial⟩
def aZ7:List AV->Option (Option Prop×AV×List Ob)
 | [.agg (.cons (.k (.list .q) W) (.cons (.k .q B) .nil)),.k (.list .q) x]=>some (some ((1<=W.length/\W.length<=20)/\(W.length=x.length->AnG W B x)),.tup (.cons (.k .bool (anS W B x)) (.cons (.k .q (anY W B x)) (.cons (.k (.int .i64) (anE W x)) .nil))),[])
 | _=>none
def a0X:az:=⟨13,false,aZ7⟩
def a1c (W:List Rat) ( B:Rat) (x:List Rat):bk:=⟨fun key_=>match key_ with | 8=>5 | _=>0,nL,nR,nU⟩
def aZ8 (W:List Rat) ( B:Rat) (x:List Rat):Prop:=bif !decide (erC W=(0:Int)) then On (0:Int) (0:Nat)/\false=anS W B x/\j6 (0:Int) (0:Nat)=anY W B x/\(1:Int)=anE W x else x.length<=aB ->
 W.length<=aB->bif !decide ((↑x.length:Int)=(↑W.length:Int)) then On (0:Int) (0:Nat)/\false=anS W B x/\j6 (0:Int) (0:Nat)=anY W B x/\(5:Int) =
 anE W x else (((1:Nat)<=W.length/\W.length<=(20:Nat)/\W.length=x.length)/\AnG W B x)/\Sq BQ (dW W x+B)/\decide ((0:Int)<(dW W x+B).num.sign) =
 anS W B x/\dW W x+B=anY W B x/\(0:Int)=anE W x
theorem a0S (W:List Rat) ( B:Rat) (x:List Rat):aw a1U [] (a1c W B x) Tryz.f13 (.tup (.cons (.k .bool (anS W B x)) (.cons (.k .q (anY W B x)) (.cons (.k (.int .i64) (anE W x)) .nil)))) [.agg (.cons (.k (.list .q) W) (.cons (.k .q B) .nil)),.k (.list .q) x]=aZ8 W B x:=by kernel_rfl
theorem a0T (W:List Rat) ( B:Rat) (x:List Rat) (hg:(1<=W.length/\W.length<=20)/\(W.length=x.length->AnG W B x)):aZ8 W B x:=by
 obtain ⟨h1,h2⟩:=hg;have e:erC W=0:=aV h1;unfold aZ8 anS anY anE;refine dP (fun h=>absurd e h) fun _ _ _=>dP (fun h=>?_) fun h=>?_
 ·have hn:¬W.length=x.length:=fun h3=>h (by omega);rw [aI hn,aI hn,eJ hn];exact ⟨.inl rfl,rfl,fN 0,rfl⟩
 ·have hy:W.length=x.length:=by omega
  obtain ⟨h4,h5,h6,h7⟩:=h2 hy;rw [aV hy,aV hy,jW hy,gA];refine ⟨⟨⟨h1.1,h1.2,hy⟩,h4,h5,h6,h7⟩,h7,xW.2 ⟨fun h8=>aUp.1 (by omega),fun h8=>by have:=aUp.2 h8;omega⟩,rfl,rfl⟩
theorem a0U:aqn (cfg []) a0X:=cf a1v bp Tryz.func13 fun a _ _ _ hc hg hf=>by change aZ7 a=_ at hc;unfold aZ7 at hc;split at hc <;> cases hc;cases aY (a0S _ _ _) (a0T _ _ _ hg);exact ⟨rfl,by kernel_rfl,_,by assumption⟩
end Go.Proofs.YtefbmebfkfeefaaGreatDoor.AM
namespace Go.Proofs.YtefbmebfkfeefaaGreatDoor
open Go.RowKit
end Go.Proofs.YtefbmebfkfeefaaGreatDoor
namespace Go.Proofs.YtefbmebfkfeefaaGreatDoor.AM
open Go.RowKit
noncomputable def LZ5:List az:=[]
theorem akb:bd LZ5:=trivial
def acE:CF
 | [.k (.list (.int .i64)) xs,.k (.list (.int .i64)) ys]=>some (none,.k .bool (decide (xs=ys)),[])
 | _=>none
def adW:az:=⟨18,false,acE⟩
def afJ (xs ys:List Int):bk:=⟨fun key_=>match key_ with | 6=>8 | _=>0,fun key_=>match key_ with
 | 4=>some (⟨Nat,fun i=>[(0,.k (.list (.int .i64)) xs),(1,.k (.list (.int .i64)) ys),(5,.k (.int .i64) ((i:Nat):Int))],
 fun i=>[],fun _ i=>i<=xs.length/\xs.length=ys.length/\∀j,j<i->xs.getD j 0=ys.getD j 0,fun i=>xs.length-i⟩) | _=>none,nR,nU⟩
def acF (xs ys:List Int):Prop:=xs.length<=(9223372036854775807:Nat)->ys.length<=(9223372036854775807:Nat)->bif !decide ((↑xs.length:Int)=(↑ys.length:Int)) then false=decide (xs=ys)
 else ∃(x0:Nat),(xs=xs/\ys=ys/\(0:Int)=(↑x0:Int))/\(x0<=xs.length/\xs.length=ys.length/\∀(j:Nat),j<x0->xs.getD j (0:Int)=ys.getD j (0 :
 Int))/\∀(x:Nat),(x<=xs.length/\xs.length=ys.length/\∀(j:Nat),j<x->xs.getD j (0:Int)=ys.getD j (0:Int))->xs.length<=(9223372036854775807:Nat) ->
 bif decide ((↑x:Int)<(↑xs.length:Int)) then ((0:Int)<=(↑x:Int)/\(↑x:Int)<(↑xs.length:Int))/\((0:Int)<=(↑x:Int)/\(↑x:Int)<(↑ys.length:Int))
 /\ bif !decide (xs.getD (↑x:Int).toNat (0:Int)=ys.getD (↑x:Int).toNat (0:Int)) then false=decide (xs=ys) else ax ((↑x:Int)+(1:Int))/\∃(x':Nat),
 (xs=xs/\ys=ys/\(↑x:Int)+(1:Int)=(↑x':Int))/\(x'<=xs.length/\xs.length=ys.length/\∀(j:Nat),j<x'->xs.getD j (0:Int)=ys.getD j (0:Int)) /\
 xs.length-x'<xs.length-x else true=decide (xs=ys)
theorem ae7 (xs ys:List Int):aw LZ5 [] (afJ xs ys) Tryz.f18 (.k .bool (decide (xs=ys))) [.k (.list (.int .i64)) xs,.k (.list (.int .i64)) ys]=acF xs ys:=by kernel_rfl
theorem ae8 (xs ys:List Int) (hf:cJ [.k (.list (.int .i64)) xs,.k (.list (.int .i64)) ys]):acF xs ys:=by
 unfold acF;intro h1 h2;refine dP (fun h=>(eJ fun e=>h (by rw [e])).symm) fun h=>⟨0,⟨rfl,rfl,rfl⟩,⟨fi _,by omega,fun j hj=>absurd hj (fK j)⟩,fun i ⟨hi,hl,bB⟩ hL=>aH (fun h3=>⟨idx h3,⟨by omega,by omega⟩,?_⟩) fun h3=>?_⟩
 ·refine dP (fun h4=>(eJ fun e=>h4 (by rw [e])).symm) fun h4=>⟨by unfold ax;omega,i+1,⟨rfl,rfl,rfl⟩,⟨by omega,hl,fun j hj=>?_⟩,by omega⟩
  rcases bX j i with h5 | h5
  ·exact bB j h5
  ·rw [show j=i by omega];exact h4
 ·exact (jW (fp 0 hl fun j hj=>bB j (by omega))).symm
theorem ae9:aqn (cfg []) adW:=cf akb bp Tryz.func18 fun a _ _ _ hc hg hf=>by change acE a=_ at hc;unfold acE at hc;split at hc <;> cases hc;cases aY (ae7 _ _) (ae8 _ _ hf);exact ⟨rfl,by kernel_rfl,_,by assumption⟩
def edI (M:List (List Rat)) (is:List Bool) (W Y:List Rat) (i:Nat):Bool:=bif decide (dW W (M.getD i [])=dW W (ptL M is Y true)) then true else decide (dW W (M.getD i [])=dW W (ptL M is Y false))
def edL (M:List (List Rat)) (is:List Bool) (W Y:List Rat):Nat->List Int
 | 0=>[]
 | i+1=>bif edI M is W Y i then edL M is W Y i++[(i:Int)] else edL M is W Y i
theorem a6T (M:List (List Rat)) (is:List Bool) (W Y:List Rat):∀n,(edL M is W Y n).length<=n
 | 0=>cE _
 | n+1=>by
  have ih:=a6T M is W Y n;unfold edL
  cases edI M is W Y n with
  | true=>rw [gA,eB,yk];omega
  | false=>rw [pK];omega
def egE (M:List (List Rat)) (is:List Bool) (W:List Rat) (B D:Rat) (Y:List Rat):Int:=if chE M is=0 then (if PrP M is W B D Y then 0 else 1) else chE M is
def egL (M:List (List Rat)) (is:List Bool) (W:List Rat) (B D:Rat) (Y:List Rat):List Int:=if egE M is W B D Y=0 then edL M is W Y M.length else []
noncomputable def a3q:List az:=aa5::[]
theorem a2Z:bd a3q:=⟨V5,trivial⟩
def a7b:List AV->Option (Option Prop×AV×List Ob)
 | [.k (.list (.int .i64)) l]=>some (some (l.length<=100/\∀i,ax (l.getD i 0)),.k (.list (.list .q)) (twL l),[])
 | _=>none
def a7P:az:=⟨12,false,a7b⟩
def a7Q (l:List Int):bk:=⟨fun key_=>match key_ with | 5=>11 | _=>0,fun key_=>match key_ with
 | 3=>some (⟨Nat,fun i=>[(0,.k (.list (.int .i64)) l),(3,.own 3 0 1),(4,.k (.int .i64) ((2*i:Nat):Int))],
 fun i=>[(3,.bc 28 35 .q (aA i fun t=>t) (twM l i))],
 fun _ i=>i<=l.length/2,fun i=>l.length/2-i⟩) | _=>none,nR,nU⟩
def a7c (l:List Int):Prop:=∃(x0:Nat),((l=l/\(0:Int)=(↑((2:Nat)*x0):Int))/\(aA x0 fun (t:Nat)=>t)=[]/\twM l x0=[])/\x0<=l.length/(2:Nat)/\∀(x:Nat),
 let u1:=(↑((2:Nat)*x):Int);x<=l.length/(2:Nat)->ax (u1+(1:Int))/\(l.length<=(9223372036854775807:Nat)->bif decide (u1+(1:Int)<(↑l.length :
 Int)) then ((0:Int)<=u1/\u1<(↑l.length:Int))/\ax (l.getD u1.toNat (0:Int))/\ax (u1+(1:Int))/\((0:Int)<=u1+(1:Int)/\u1+(1:Int) <
 (↑l.length:Int))/\ax (l.getD (u1+(1:Int)).toNat (0:Int))/\((aA x fun (t:Nat)=>t).length+(1:Nat)<=aB/\((twM l x).length)<(twM l x++[[(↑(l.getD
 u1.toNat (0:Int)):Rat),(↑(l.getD (u1+(1:Int)).toNat (0:Int)):Rat)]]).length)/\ax (u1+(2:Int))/\∃(x':Nat),((l=l/\u1+(2:Int)=(↑((2:Nat)
 * x'):Int))/\((aA x fun (t:Nat)=>t)++[((twM l x).length)]=aA x' fun (t:Nat)=>t)/\twM l x++[[(↑(l.getD u1.toNat (0:Int)):Rat),(↑(l.getD (u1+(1 :
 Int)).toNat (0:Int)):Rat)]]=twM l x')/\x'<=l.length/(2:Nat)/\l.length/(2:Nat)-x'<l.length/(2:Nat)-x else List.map (fun (p:Nat)=>(twM l
 x).getD p []) (aA x fun (t:Nat)=>t)=twL l)
theorem a7t (l:List Int):aw a3q [] (a7Q l) Tryz.f12 (.k (.list (.list .q)) (twL l)) [.k (.list (.int .i64)) l]=a7c l:=by kernel_rfl
theorem a7u (l:List Int) (hg:l.length<=100/\∀i,ax (l.getD i 0)):a7c l:=by
 obtain ⟨hl,hi⟩:=hg;have ln:∀x,(twM l x).length=x:=fun x=>mkM_len ..;have eX:∀x,List.map (fun (p:Nat)=>(twM l x).getD p []) (aA x fun (t:Nat)=>t)=twM l x:=fun x=>by rw [sv];exact (vt [] (ln x) fun i _=>rfl).symm
 have i64:∀z:Int,0<=z->z<=200->ax z:=fun z h1 h2=>by unfold ax;omega
 unfold a7c;dsimp only;refine ⟨0,⟨⟨rfl,rfl⟩,rfl,rfl⟩,fi _,fun x hx=>⟨i64 _ (by omega) (by omega),fun _=>aH (fun h=>?_) fun h=>?_⟩⟩
 ·rw [show ((2*x:Nat):Int).toNat=2*x from rfl,show (((2*x:Nat):Int)+1).toNat=2*x+1 from rfl];simp only [mX];refine ⟨⟨by omega,by omega⟩,hi _,i64 _ (by omega) (by omega),⟨by omega,h⟩,hi _,⟨by unfold aB;omega,by rw [eB];simp⟩,i64 _ (by omega) (by omega),x+1,⟨⟨True.intro,by omega⟩,?_,(tI x _).symm⟩,by omega,by omega⟩;rw [ln];exact (tI x fun t=>t).symm
 ·rw [eX,show x=l.length/2 by omega];rfl
theorem a7v:aqn (cfg []) a7P:=cf a2Z bp Tryz.func12 fun a _ _ _ hc hg hf=>by change a7b a=_ at hc;unfold a7b at hc;split at hc <;> cases hc;cases aY (a7t _) (a7u _ hg);exact ⟨rfl,by kernel_rfl,_,by assumption⟩
noncomputable def a3r:List az:=aYo::aZe
theorem a23:bd a3r:=⟨aYs,aXc⟩
def a6A:List AV->Option (Option Prop×AV×List Ob)
 | [.agg (.cons (.agg (.cons (.k (.list .q) W) (.cons (.k .q B) .nil))) (.cons (.k .q D) (.cons (.k (.list .q) Y) .nil))),.k (.list (.list .q)) M,.k (.list .bool) is]=>some (some (NyG M is Y/\SL BQ W/\Sq BQ B/\Sq BQ D),T2 (.k (.list (.int .i64)) (egL M is W B D Y)) (.k (.int .i64) (egE M is W B D Y)),[])
 | _=>none
def a7h:az:=⟨15,false,a6A⟩
def a7w (W:List Rat) ( B  D:Rat) ( Y:List Rat) (M:List (List Rat)) (is:List Bool):bk:=⟨fun key_=>match key_ with | 13=>11 | _=>0,fun key_=>match key_ with
 | 10=>some (⟨Nat,fun i=>[(9,.k (.list .q) (ptL M is Y true)),(10,.k (.list .q) (ptL M is Y false)),(11,.k (.list .q) W),(12,.own 12 0 1),(38,.k (.list (.list .q)) M),(39,.k (.int .i64) ((M.length:Nat):Int)),(40,.k (.int .i64) ((i:Nat):Int))],
 fun i=>[(12,.arr 3 (.int .i64) (edL M is W Y i))],fun _ i=>i<=M.length,fun i=>M.length-i⟩) | _=>none,nR,nU⟩
def a6B (W:List Rat) ( B  D:Rat) ( Y:List Rat) (M:List (List Rat)) (is:List Bool):Prop:=bif !decide (chE M is=(0:Int)) then egL M is W B D Y=[]/\chE M is=egE M is W B D Y else (NyG M is Y/\SL BQ W/\Sq BQ B/\Sq BQ D)/\bif !decide (PrC M is W B D
 Y) then egL M is W B D Y=[]/\(1:Int)=egE M is W B D Y else MgG M is Y/\(M.length<=aB->∃(x0:Nat),((ptL M is Y true=ptL M is Y true/\ptL M is Y false =
 ptL M is Y false/\W=W/\M=M/\(↑M.length:Int)=(↑M.length:Int)/\(0:Int)=(↑x0:Int))/\edL M is W Y x0=[])/\x0<=M.length/\∀(x:Nat),
 let u1:=M.getD (↑x:Int).toNat [];x<=M.length->bif decide ((↑x:Int)<(↑M.length:Int)) then ((0:Int)<=(↑x:Int)/\(↑x:Int)<(↑M.length:Int)) /\
 (W.length=u1.length/\lM W u1)/\(W.length=(ptL M is Y true).length/\lM W (ptL M is Y true))/\(Sq BQ (dW W u1)/\Sq BQ (dW W (ptL M is Y true)))/\bif
 decide (fS (dW W u1) (dW W (ptL M is Y true))=(0:Int)) then (edL M is W Y x).length+[(↑x:Int)].length<=aB/\ax ((↑x:Int)+(1:Int))/\∃(x':Nat),
 ((ptL M is Y true=ptL M is Y true/\ptL M is Y false=ptL M is Y false/\W=W/\M=M/\(↑M.length:Int)=(↑M.length:Int)/\(↑x:Int)+(1:Int)=(↑x':Int))
 /\ (edL M is W Y x).append [(↑x:Int)]=edL M is W Y x')/\x'<=M.length/\M.length-x'<M.length-x else (W.length=(ptL M is Y false).length/\lM W (ptL M is Y
 false))/\(Sq BQ (dW W u1)/\Sq BQ (dW W (ptL M is Y false)))/\bif decide (fS (dW W u1) (dW W (ptL M is Y false))=(0:Int)) then (edL M is W Y x).length +
 [(↑x:Int)].length<=aB/\ax ((↑x:Int)+(1:Int))/\∃(x':Nat),((ptL M is Y true=ptL M is Y true/\ptL M is Y false=ptL M is Y false/\W=W/\M=M /\
 (↑M.length:Int)=(↑M.length:Int)/\(↑x:Int)+(1:Int)=(↑x':Int))/\(edL M is W Y x).append [(↑x:Int)]=edL M is W Y x')/\x'<=M.length/\M.length-x' <
 M.length-x else ax ((↑x:Int)+(1:Int))/\∃(x':Nat),((ptL M is Y true=ptL M is Y true/\ptL M is Y false=ptL M is Y false/\W=W/\M=M/\(↑M.length :
 Int)=(↑M.length:Int)/\(↑x:Int)+(1:Int)=(↑x':Int))/\edL M is W Y x=edL M is W Y x')/\x'<=M.length/\M.length-x'<M.length-x else edL M is W Y x =
 egL M is W B D Y/\(0:Int)=egE M is W B D Y)
theorem a7d (W:List Rat) ( B  D:Rat) ( Y:List Rat) (M:List (List Rat)) (is:List Bool):aw a3r [] (a7w W B D Y M is) Tryz.f15 (T2 (.k (.list (.int .i64)) (egL M is W B D Y)) (.k (.int .i64) (egE M is W B D Y))) [.agg (.cons (.agg (.cons (.k (.list .q) W) (.cons (.k .q B) .nil))) (.cons (.k .q D) (.cons (.k (.list .q) Y) .nil))),.k (.list (.list .q)) M,.k (.list .bool) is]=a6B W B D Y M is:=by kernel_rfl
theorem a7e (W:List Rat) ( B  D:Rat) ( Y:List Rat) (M:List (List Rat)) (is:List Bool) (hg:NyG M is Y/\SL BQ W/\Sq BQ B/\Sq BQ D):a6B W B D Y M is:=by
 obtain ⟨hy,sW,sB,sD⟩:=hg;unfold a6B;dsimp only;refine dP (fun h=>?_) fun h=>⟨⟨hy,sW,sB,sD⟩,dP (fun h2=>?_) fun h2=>?_⟩
 ·have e:egE M is W B D Y=chE M is:=aI h;exact ⟨aI (by rw [e];exact h),e.symm⟩
 ·have hn:¬PrP M is W B D Y:=fun h3=>h2 ⟨h,h3⟩;have e:egE M is W B D Y=1:=by unfold egE;rw [aV h,aI hn]
  exact ⟨aI (by rw [e];decide),e.symm⟩
 have hp:=h2.2;have e:egE M is W B D Y=0:=by unfold egE;rw [aV h,aV hp]
 have g:=hy.mg h hp.1;obtain ⟨m1,m2,m3⟩:=ba g.right;have h24:=g.n24;have eW:W=wyL M is Y:=hp.2.1;have hq:∀t,Sq BQ (dW W (ptL M is Y t)):=fun t=>by rw [eW];exact (aVi g.sw (g.sp t) g.lw (by omega)).le (by unfold BQ;omega)
 have hr:∀i,Sq BQ (dW W (M.getD i [])):=fun i=>by rw [eW];exact (aVi g.sw (g.sM i) g.lw (by omega)).le (by unfold BQ;omega)
 have dr:∀i,lM W (M.getD i []):=fun i=>by rw [eW];exact aSg g.sw (g.sM i) g.lw (by omega)
 have pl:∀t,W.length=(ptL M is Y t).length:=fun t=>by rw [eW,aVh,aQP]
 have dp:∀t,lM W (ptL M is Y t):=fun t=>by rw [eW];exact aSg g.sw (g.sp t) g.lw (by omega)
 refine ⟨g,fun _=>⟨0,⟨⟨rfl,rfl,rfl,rfl,rfl,rfl⟩,rfl⟩,fi _,fun x hx=>aH (fun h5=>?_) fun h5=>?_⟩⟩
 ·have pU:x<M.length:=by omega
  rw [show M.getD ((x:Nat):Int).toNat []=M.getD x [] from rfl];have rl:W.length=(M.getD x []).length:=by rw [eW,aVh];exact (m3 x pU).symm
  have hl:=a6T M is W Y x;have yes:edI M is W Y x=true->(edL M is W Y x).append [((x:Nat):Int)]=edL M is W Y (x+1):=fun e=>by
   show _=bif edI M is W Y x then _ else _
   rw [e];rfl
  have no:edI M is W Y x=false->edL M is W Y x=edL M is W Y (x+1):=fun e=>by
   show _=bif edI M is W Y x then _ else _
   rw [e];rfl
  refine ⟨⟨by omega,h5⟩,⟨rl,dr x⟩,⟨pl true,dp true⟩,⟨hr x,hq true⟩,aH (fun h6=>?_) fun h6=>⟨⟨pl false,dp false⟩,⟨hr x,hq false⟩,aH (fun h7=>?_) fun h7=>?_⟩⟩
  ·exact ⟨by simp only [yk];unfold aB;omega,by unfold ax;omega,x+1,⟨⟨rfl,rfl,rfl,rfl,rfl,rfl⟩,yes (by unfold edI;rw [jW (gz.1 h6)];rfl)⟩,by omega,by omega⟩
  ·exact ⟨by simp only [yk];unfold aB;omega,by unfold ax;omega,x+1,⟨⟨rfl,rfl,rfl,rfl,rfl,rfl⟩,yes (by unfold edI;rw [eJ fun h8=>h6 (gz.2 h8),pK];exact jW (gz.1 h7))⟩,by omega,by omega⟩
  ·exact ⟨by unfold ax;omega,x+1,⟨⟨rfl,rfl,rfl,rfl,rfl,rfl⟩,no (by unfold edI;rw [eJ fun h8=>h6 (gz.2 h8),pK];exact eJ fun h8=>h7 (gz.2 h8))⟩,by omega,by omega⟩
 ·rw [show x=M.length by omega];exact ⟨(aV e).symm,e.symm⟩
theorem a7f:aqn (cfg []) a7h:=cf a23 bp Tryz.func15 fun a _ _ _ hc hg hf=>by change a6A a=_ at hc;unfold a6A at hc;split at hc <;> cases hc;cases aY (a7d _ _ _ _ _ _) (a7e _ _ _ _ _ _ hg);exact ⟨rfl,by kernel_rfl,_,by assumption⟩
def a7R (pm:List Nat) (i:Nat):Nat:=pm.findIdx fun x=>Nat.beq x i
section
variable {pm:List Nat} {ops:Array Oper}
structure bd7 (pm:List Nat) (ops:Array Oper):Prop where
 len:pm.length=ops.size
 to:∀i,i<ops.size->a7R pm i<ops.size/\pm.getD (a7R pm i) 0=i
 back:∀p,p<ops.size->pm.getD p 0<ops.size/\a7R pm (pm.getD p 0)=p
 aft:∀o∈ops,∀e∈o.after,e.on<ops.size
 gd:∀o∈ops,∀j b,o.guard=some (j,b)->j<ops.size
variable {P:Program} {Q:Exit->Act->World->Prop}
end
def a6C (ops:Array Oper) (l:List Nat) (i:Nat):Bool:=a1n i (vi ops.toList l)&&match ops[i]? with
 | none=>false
 | some oi=>(List.range ops.size).all fun j=>j == i||(a1n j l||match ops[j]? with
   | some oj=>oj.after.any (fun e=>Region.binds .any e&&e.on == i)||oi.apart ops oj
   | none=>true)
def a6D (C:bO) (m:Sl) (H:Hp) (o:Oper):QR:=match o.op with
 | .slice t x lo hi none=>(match a4b m lo,a4b m hi,aYO C.P t,ev m x with
  | some l,some h,some s,.k (.list K) xs=>bif Nat.beq s K.sz then qg (rz xs.length l h none) (.k (.list K) (aM9 xs l h)) else none
  | _,_,_,_=>none)
 | _=>bif a1N o.op then a3g C m H o else none
def aXx (C:bO) (ops:Array Oper) (K:St->Prop):Nat->List Nat->St->Prop
 | 0,l,s=>match vi ops.toList l with
  | []=>K s
  | _=>False
 | f+1,l,s=>match vi ops.toList l with
  | []=>K s
  | r=>match r.find? fun i=>a6C ops l i&&(match ops[i]? with
    | some o=>o.guard.isNone&&(a6D C s.m s.H o).isSome
    | none=>false) with
   | some i=>(match ops[i]? with
    | some o=>(match a6D C s.m s.H o with
     | some (_,g,v)=>zn g (aXx C ops K f (i::l) ⟨azw s.m o.dst v,s.H⟩)
     | none=>False)
    | none=>False)
   | none=>TO r fun i=>match ops[i]? with
    | some o=>stepG C ops.toList o (aXx C ops K f (i::l)) s
    | none=>False
def a4S (C:bO) (n:Nat) (R:Option aaw) (ops:Array Oper) (K:St->Prop) (s:St):Prop:=
 bif C.P.follows .mixedOrders&&(iJ C.lo n ops.toList&&Region.noSelect ops) then (match R with
  | some R=>∃x,aXx C ops (fun s'=>Iy s' ⟨R.sl x,R.hp x⟩) ops.size [] s/\K ⟨R.sl x,R.hp x⟩
  | none=>aXx C ops K ops.size [] s) else False
section
variable {C:bO} {F B0:Nat->Prop} {w0:World} {n:Nat} {ops:Array Oper}
theorem a6E {listed:Array Bool} {l:List Nat} {i:Nat} (hI:Ei ops listed l) (h:a6C ops l i=true):(Region.ready .any ops listed).contains i=true/\Region.free .any ops listed i=true:=by
 unfold a6C at h;rw [bF] at h;obtain ⟨h1,h2⟩:=h;refine ⟨by rw [zu hI];simpa using zt.1 h1,?_⟩;unfold Region.free
 cases ho:ops[i]? with
 | none=>rw [ho] at h2;cases h2
 | some oi=>
  rw [ho] at h2;simp only [uX,uw,vu] at h2 ⊢;intro j hj;rcases h2 j hj with h | h | h
  ·exact .inl (.inl h)
  ·exact .inl (.inr (by rw [hI.2.2 j hj];exact h))
  ·exact .inr h
theorem a7x {w:World} {β:Bm} {H:Hp} {m:Sl} {a:Act} {o:Oper} {bm g:Option Prop} {v:AV} (M:Mem C.Tb F B0 w0 β H w) (hx:∀x∈o.op.operands,aq (Ok F w0 β H) w β (ev m x) (a.eval x)) (h:a6D C m H o=some (bm,g,v)) (hg:bt g) :
  ∃u,(∀w',(execOp a.eval o).run C.P w' = .ok (.value u) w')/\aq (Ok F w0 β H) w β v u:=by
 unfold a6D at h
 split at h
 ·rename_i t x lo hi ho
  split at h
  ·rename_i l h' s K xs hl hh hs he
   cases hb:Nat.beq s K.sz with
   | false=>rw [hb] at h;cases h
   | true=>
    rw [hb,gA] at h
    rw [pv] at hb
    obtain ⟨rfl,rfl,rfl⟩:=aCn h
    have wk:=hx x (by rw [ho];simp [Op.operands])
    rw [he] at wk
    have ol:qb l (lo.map a.eval):=mz hl fun y hy=>hx y (by rw [ho,hy];simp [Op.operands])
    have oh:qb h' (hi.map a.eval):=mz hh fun y hy=>hx y (by rw [ho,hy];simp [Op.operands])
    have om:qb none ((none:Option Operand).map a.eval):=rfl
    obtain ⟨c,⟨A,c',rfl,hc,h4,h5⟩,hv⟩:=wk
    have hg:rz xs.length l h' none:=hg
    obtain ⟨g1,g2,g3,g4⟩:=Tp hg hc
    have uG:bj (Ok F w0 β H) w (.list K) xs [.slice A xs.length c']:=⟨A,c',rfl,hc,h4,h5⟩
    have hk:=Ov uG g1 g2 g3
    rw [<-DK hg, <- hb] at hk
    refine ⟨_,fun w'=>?_,_,hk,rfl⟩
    unfold execOp
    have hv:a.eval x = .slice A xs.length c':=hv
    simp only [ho,hv,vW hs ol oh om hg hc,Sem.run_bind,Result.andThen_ok,Sem.run_pure]
    rfl
  ·cases h
 ·cases hp:a1N o.op with
  | false=>rw [hp] at h;cases h
  | true=>
   rw [hp,gA] at h
   exact (Ik (o:=o) (ρ:=a.eval) M hx hp h).2 hg
theorem a4a (hT:dI C.Tb) (hC:nW C) (hB:BF B0 F) {K:St->Prop} {Q:Exit->Act->World->Prop} (hP:∀c a w,¬Q (.panic c) a w) (hd:iJ C.lo n ops.toList=true) (hs:Region.noSelect ops=true) (hQ:∀β s a w,K s->bo C F B0 w0 n β s a w->Kept C a->Q .normal a w) :
  ∀{f:Nat} {l:List Nat} {listed:Array Bool} {β:Bm} {s:St} {a:Act} {w:World},Ei ops listed l->aXx C ops K f l s->bo C F B0 w0 n β s a w->Kept C a->wpAny C.P .any ops Q f listed a w
 | 0,l,listed, β,s,a,w,hI,h,S,hk=>by
  unfold aXx at h;unfold wpAny;rw [zu hI];split at h
  ·rename_i e;exact ⟨e,hQ _ _ _ _ h S hk⟩
  ·exact h.elim
 | f+1,l,listed, β,s,a,w,hI,h,S,hk=>by
  unfold aXx at h;split at h
  ·rename_i e;unfold wpAny;rw [zu hI,e];exact ⟨fun _=>hQ _ _ _ _ h S hk,fun i hi=>by cases hi⟩
  ·rename_i ay;split at h
   ·rename_i i hfd;have hx:=List.find?_some hfd;rw [bF] at hx;obtain ⟨ht,hx⟩:=hx;split at h
    ·rename_i o ho;rw [ho] at hx;simp only [bF] at hx;have hi:i<ops.size:=(kx.1 ho).1;obtain ⟨hr,hf⟩:=a6E hI ht;split at h
     ·rename_i bm g v hq;have h:bt g/\aXx C ops K f (i::l) ⟨azw s.m o.dst v,s.H⟩:=by cases g with | none=>exact ⟨trivial,h⟩ | some G=>exact h
      obtain ⟨u,h1,h2⟩:=a7x (a:=a) S.mem (fun x _=>ew S.slot x) hq h.1;have Ix:=gX hd o (by simpa using Array.mem_of_getElem? ho);have hgn:o.guard=none:=by simpa using hx.1
      refine wpAny_take ho hs hf hr (fun c a w h=>(hP _ _ _ h).elim) (.inl ⟨by simp [Region.wanted,hgn],h1⟩) ?_;exact a4a hT hC hB hP hd hs hQ (hI.put hi) h.2 ⟨S.mem,by rw [dF];exact S.size,by rw [cP];exact S.defs,dE S.slot S.size (fun d hd=>(Ix d hd).1) h2⟩ (hk.put fun d hd=>(Ix d hd).2)
     ·exact h.elim
    ·exact h.elim
   ·unfold wpAny;rw [zu hI];refine ⟨fun e=>absurd e (by simpa using ay),fun i hi=>?_⟩;have hi':=(Az.1 hi).1;rw [tG,uw] at hi';have h:=Ej h hi;have ho:ops[i]? = some ops[i]:=tD hi';rw [ho] at h;exact OR hT hC hB ho (gX hd _ (by simp)) (fun β s a w h S hk=>a4a hT hC hB hP hd hs hQ (hI.put hi') h S hk) h S hk
theorem a7y (hT:dI C.Tb) (hC:nW C) (hB:BF B0 F) {K:St->Prop} {Q:Exit->Act->World->Prop} {R:Option aaw} {id:Nat} {β:Bm} {s:St} {a:Act} {w:World} (hP:∀c a w,¬Q (.panic c) a w) (hQ:∀β s a w,K s->bo C F B0 w0 n β s a w->Kept C a->Q .normal a w)
  (h:a4S C n R ops K s) (S:bo C F B0 w0 n β s a w) (hk:Kept C a):(Code.region id ops true).wp C.P Q a w:=by
 unfold a4S at h
 cases hb:(C.P.follows .mixedOrders&&(iJ C.lo n ops.toList&&Region.noSelect ops)) with
 | false=>rw [hb] at h;exact h.elim
 | true=>
  rw [hb,gA] at h
  simp only [bF] at hb
  obtain ⟨hm,hd,hs⟩:=hb
  have e:Ext w { w with drawn:=w.drawn+1 }:=(Ext.refl w).drew
  have hI:Ei ops (Array.replicate ops.size false) []:=⟨by simp,fun _ h=>by simp at h,fun i hi=>by simp [a1n,hi]⟩
  have S':bo C F B0 w0 n β s a { w with drawn:=w.drawn+1 }:=⟨S.mem.ext hT e,S.size,S.defs,fun t=>(S.slot t).ak (Kp.aO e) (fun _ _ h=>h) fun _ _=>rfl⟩
  refine wp_region_any hm ?_
  cases R with
  | none=>exact a4a hT hC hB hP hd hs hQ hI h S' hk
  | some R=>
   obtain ⟨x,h1,h2⟩:=h
   exact a4a hT hC hB hP hd hs (fun β s a w he S hk=>by obtain ⟨β',S'⟩:=S.ent hB he;exact hQ β' _ a w h2 S' hk) hI h1 S' hk
end
def a7z (R:Option aaw):a7a where
 step C n dr ops K s:=bif dr then a4S C n R ops K s else False
 ok {C n id ops dr K s F B0 w0 β a w Q} hT hC hB hP hQ h S hk:=by
  cases dr with
  | false=>exact h.elim
  | true=>exact a7y hT hC hB hP hQ h S hk
theorem sl2 {k:Nat} {a b:Rat} (ha:Sq k a) (hb:Sq k b) (hk:1<=k):SL k [a,b]:=fun i=>match i with
 | 0=>ha
 | 1=>hb
 | _+2=>Sq.zero _ hk
theorem a4T {x:Rat} {n d:Int} (e:x=(n:Rat)/(d:Rat)) (hn:ax n) (hd:ax d) (h0:d≠0):Sq 128 x:=by obtain ⟨a1,a2⟩:=hn;obtain ⟨b1,b2⟩:=hd;rw [e];exact (Sq.ratio (k:=64) (Sm.lit (by omega)) (Sm.lit (by omega)) h0).le (by omega)
def kxW:List Rat:=[3,0]
def kxQ:Rat:= -9/2
def kxN:Rat:=9
def kxF:Rat:=9/2
noncomputable def a8e:List az:=a7P::aT3::a0X::a7h::aZf::aXd::aTG::aa5::aa9::adW::[]
theorem a7S:bd a8e:=⟨a7v,aRD,a0U,a7f,aY0,aWL,aTK,V5,WS,ae9,trivial⟩
noncomputable def a2U:List AV->Option (Option Prop×AV×List Ob)
 | []=>some (none,.k .bool true,[])
 | _=>none
noncomputable def a7g:az:=⟨4,false,a2U⟩
noncomputable def a6H  : bk:= @bk.mk (fun key_=>match key_ with | 4=>11 | _=>0) (fun key_=>match key_ with | _=>none) (fun key_=>match key_ with | _=>none) (fun key_=>match key_ with | _=>0) ⟨fun key_=>match key_ with | 4=>some (a7z (some ⟨Unit,fun _=>[(1,.k (.list (.list .q)) kxM),(2,.k (.list .bool) kS),(3,.pt 3 0 12 0 0),(4,.k (.int .i64) (0:Int)),(5,.k .bool true),(6,.pt 6 0 5 0 0),(7,.k (.int .i64) (0:Int))],fun _=>[(3,.box 39 (.agg (.cons (.agg (.cons (.k (.list .q) kxW) (.cons (.k .q kxQ) .nil))) (.cons (.k .q kxN) (.cons (.k (.list .q) kxB) .nil))))),(6,.box 35 (.k .q kxF))]⟩)) | _=>none⟩
def avz  : Prop:=((1:Nat)<=(mfW (twL [(0:Int),(0:Int),(0:Int),(2:Int),(3:Int),(1:Int),(5:Int),(5:Int)]) [false,false,true,true]).length/\(mfW (twL [(0 :
 Int),(0:Int),(0:Int),(2:Int),(3:Int),(1:Int),(5:Int),(5:Int)]) [false,false,true,true]).length<=(20:Nat))/\((mfW (twL [(0:Int),(0:Int),
 (0:Int),(2:Int),(3:Int),(1:Int),(5:Int),(5:Int)]) [false,false,true,true]).length=[(↑(3:Int):Rat),(↑(9:Int):Rat)].length->AnG (mfW (twL
 [(0:Int),(0:Int),(0:Int),(2:Int),(3:Int),(1:Int),(5:Int),(5:Int)]) [false,false,true,true]) (mfB (twL [(0:Int),(0:Int),(0:Int),(2 :
 Int),(3:Int),(1:Int),(5:Int),(5:Int)]) [false,false,true,true]) [(↑(3:Int):Rat),(↑(9:Int):Rat)])
def auW  : Prop:=twL [(0:Int),(0:Int),(0:Int),(2:Int),(3:Int),(1:Int),(5:Int),(5:Int)]=kxM/\[false,false,true,true]=kS/\mfE (twL [(0:Int),(0:Int),(0
 : Int),(2:Int),(3:Int),(1:Int),(5:Int),(5:Int)]) [false,false,true,true]=(0:Int)/\anS (mfW (twL [(0:Int),(0:Int),(0:Int),(2:Int),(3 :
 Int),(1:Int),(5:Int),(5:Int)]) [false,false,true,true]) (mfB (twL [(0:Int),(0:Int),(0:Int),(2:Int),(3:Int),(1:Int),(5:Int),(5:Int)])
 [false,false,true,true]) [(↑(3:Int):Rat),(↑(9:Int):Rat)]=true/\anE (mfW (twL [(0:Int),(0:Int),(0:Int),(2:Int),(3:Int),(1:Int),(5:Int),
 (5:Int)]) [false,false,true,true]) [(↑(3:Int):Rat),(↑(9:Int):Rat)]=(0:Int)
def a2V  : Prop:=
 let t1:=twL [(0:Int),(0:Int),(0:Int),(2:Int),(3:Int),(1:Int),(5:Int),(5:Int)];
 let t2:=twL [(0:Int),(0:Int),(2:Int),(2:Int),(0:Int),(2:Int),(2:Int),(0:Int)];
 let t3:=mfW t1 [false,false,true,true];
 let t4:=mfB t1 [false,false,true,true];
 let t5:=(↑(9:Int):Rat);
 let t6:=(↑(3:Int):Rat);
 ([(0:Int),(0:Int),(0:Int),(2:Int),(3:Int),(1:Int),(5:Int),(5:Int)].length<=(100:Nat)/\∀(i:Nat),ax ([(0:Int),(0:Int),(0:Int),(2 :
 Int),(3:Int),(1:Int),(5:Int),(5:Int)].getD i (0:Int)))/\(chE t1 [false,false,true,true]=(0:Int)->NrG t1 [false,false,true,true])/\∃(x:Unit),
 (((ax (3:Int)/\(ax (9:Int)/\((avz  /\ auW  /\ ((mfW t1 [false,false,true,true]=kxW/\mfB t1 [false,false,true,true]=kxQ)/\mfD t1 [false,
 false,true,true]=kxN/\mfY t1 [false,false,true,true]=kxB)/\anY t3 t4 [t6,t5]=kxF)/\avz  /\ auW  /\ ((mfW t1 [false,false,true,true]=kxW /\
 mfB t1 [false,false,true,true]=kxQ)/\mfD t1 [false,false,true,true]=kxN/\mfY t1 [false,false,true,true]=kxB)/\anY t3 t4 [t6,t5]=kxF)/\avz  /\
 auW  /\ ((mfW t1 [false,false,true,true]=kxW/\mfB t1 [false,false,true,true]=kxQ)/\mfD t1 [false,false,true,true]=kxN/\mfY t1 [false,false,
 true,true]=kxB)/\anY t3 t4 [t6,t5]=kxF)/\ax (9:Int)/\avz  /\ auW  /\ ((mfW t1 [false,false,true,true]=kxW/\mfB t1 [false,false,true,
 true]=kxQ)/\mfD t1 [false,false,true,true]=kxN/\mfY t1 [false,false,true,true]=kxB)/\anY t3 t4 [t6,t5]=kxF)/\ax (3:Int)/\ax (9:Int) /\
 avz  /\ auW  /\ ((mfW t1 [false,false,true,true]=kxW/\mfB t1 [false,false,true,true]=kxQ)/\mfD t1 [false,false,true,true]=kxN/\mfY t1
 [false,false,true,true]=kxB)/\anY t3 t4 [t6,t5]=kxF)/\(ax (3:Int)/\((ax (9:Int)/\((avz  /\ auW  /\ ((mfW t1 [false,false,true,true] =
 kxW/\mfB t1 [false,false,true,true]=kxQ)/\mfD t1 [false,false,true,true]=kxN/\mfY t1 [false,false,true,true]=kxB)/\anY t3 t4 [t6,t5]=kxF) /\
 avz  /\ auW  /\ ((mfW t1 [false,false,true,true]=kxW/\mfB t1 [false,false,true,true]=kxQ)/\mfD t1 [false,false,true,true]=kxN/\mfY t1
 [false,false,true,true]=kxB)/\anY t3 t4 [t6,t5]=kxF)/\avz  /\ auW  /\ ((mfW t1 [false,false,true,true]=kxW/\mfB t1 [false,false,true,true]
 = kxQ)/\mfD t1 [false,false,true,true]=kxN/\mfY t1 [false,false,true,true]=kxB)/\anY t3 t4 [t6,t5]=kxF)/\ax (9:Int)/\avz  /\ auW  /\
 ((mfW t1 [false,false,true,true]=kxW/\mfB t1 [false,false,true,true]=kxQ)/\mfD t1 [false,false,true,true]=kxN/\mfY t1 [false,false,true,true]=kxB)
 /\ anY t3 t4 [t6,t5]=kxF)/\(ax (9:Int)/\(((avz  /\ auW  /\ ((mfW t1 [false,false,true,true]=kxW/\mfB t1 [false,false,true,true]=kxQ)/\mfD
 t1 [false,false,true,true]=kxN/\mfY t1 [false,false,true,true]=kxB)/\anY t3 t4 [t6,t5]=kxF)/\avz  /\ auW  /\ ((mfW t1 [false,false,true,
 true]=kxW/\mfB t1 [false,false,true,true]=kxQ)/\mfD t1 [false,false,true,true]=kxN/\mfY t1 [false,false,true,true]=kxB)/\anY t3 t4 [t6,t5]=kxF) /\
 avz  /\ auW  /\ ((mfW t1 [false,false,true,true]=kxW/\mfB t1 [false,false,true,true]=kxQ)/\mfD t1 [false,false,true,true]=kxN/\mfY t1
 [false,false,true,true]=kxB)/\anY t3 t4 [t6,t5]=kxF)/\(((avz  /\ auW  /\ ((mfW t1 [false,false,true,true]=kxW/\mfB t1 [false,false,true,
 true]=kxQ)/\mfD t1 [false,false,true,true]=kxN/\mfY t1 [false,false,true,true]=kxB)/\anY t3 t4 [t6,t5]=kxF)/\avz  /\ auW  /\ ((mfW t1
 [false,false,true,true]=kxW/\mfB t1 [false,false,true,true]=kxQ)/\mfD t1 [false,false,true,true]=kxN/\mfY t1 [false,false,true,true]=kxB)/\anY t3
 t4 [t6,t5]=kxF)/\avz  /\ auW  /\ ((mfW t1 [false,false,true,true]=kxW/\mfB t1 [false,false,true,true]=kxQ)/\mfD t1 [false,false,true,true]
 = kxN/\mfY t1 [false,false,true,true]=kxB)/\anY t3 t4 [t6,t5]=kxF)/\(avz  /\ auW  /\ ((mfW t1 [false,false,true,true]=kxW/\mfB t1 [false,
 false,true,true]=kxQ)/\mfD t1 [false,false,true,true]=kxN/\mfY t1 [false,false,true,true]=kxB)/\anY t3 t4 [t6,t5]=kxF)/\avz  /\ auW  /\
 ((mfW t1 [false,false,true,true]=kxW/\mfB t1 [false,false,true,true]=kxQ)/\mfD t1 [false,false,true,true]=kxN/\mfY t1 [false,false,true,true]=kxB)
 /\ anY t3 t4 [t6,t5]=kxF)/\(ax (9:Int)/\avz  /\ auW  /\ ((mfW t1 [false,false,true,true]=kxW/\mfB t1 [false,false,true,true]=kxQ)/\mfD t1
 [false,false,true,true]=kxN/\mfY t1 [false,false,true,true]=kxB)/\anY t3 t4 [t6,t5]=kxF)/\ax (9:Int)/\(avz  /\ auW  /\ ((mfW t1 [false,
 false,true,true]=kxW/\mfB t1 [false,false,true,true]=kxQ)/\mfD t1 [false,false,true,true]=kxN/\mfY t1 [false,false,true,true]=kxB)/\anY t3 t4 [t6,
 t5]=kxF)/\avz  /\ auW  /\ ((mfW t1 [false,false,true,true]=kxW/\mfB t1 [false,false,true,true]=kxQ)/\mfD t1 [false,false,true,true]=kxN /\
 mfY t1 [false,false,true,true]=kxB)/\anY t3 t4 [t6,t5]=kxF)/\(ax (3:Int)/\ax (9:Int)/\avz  /\ auW  /\ ((mfW t1 [false,false,true,true]
 = kxW/\mfB t1 [false,false,true,true]=kxQ)/\mfD t1 [false,false,true,true]=kxN/\mfY t1 [false,false,true,true]=kxB)/\anY t3 t4 [t6,t5]=kxF)/\ax
 (3:Int)/\(ax (9:Int)/\avz  /\ auW  /\ ((mfW t1 [false,false,true,true]=kxW/\mfB t1 [false,false,true,true]=kxQ)/\mfD t1 [false,false,
 true,true]=kxN/\mfY t1 [false,false,true,true]=kxB)/\anY t3 t4 [t6,t5]=kxF)/\ax (9:Int)/\(avz  /\ auW  /\ ((mfW t1 [false,false,true,
 true]=kxW/\mfB t1 [false,false,true,true]=kxQ)/\mfD t1 [false,false,true,true]=kxN/\mfY t1 [false,false,true,true]=kxB)/\anY t3 t4 [t6,t5]=kxF) /\
 avz  /\ auW  /\ ((mfW t1 [false,false,true,true]=kxW/\mfB t1 [false,false,true,true]=kxQ)/\mfD t1 [false,false,true,true]=kxN/\mfY t1
 [false,false,true,true]=kxB)/\anY t3 t4 [t6,t5]=kxF)/\(NyG kxM kS kxB/\SL BQ kxW/\Sq BQ kxQ/\Sq BQ kxN)/\([(0:Int),(0:Int),(2:Int),(2:Int),(0 :
 Int),(2:Int),(2:Int),(0:Int)].length<=(100:Nat)/\∀(i:Nat),ax ([(0:Int),(0:Int),(2:Int),(2:Int),(0:Int),(2:Int),(2:Int),(0 :
 Int)].getD i (0:Int)))/\(chE t2 kS=(0:Int)->NrG t2 kS)/\(chE t2 kS=(0:Int)->NrG t2 kS)/\(chE kxM kS=(0:Int)->NrG kxM kS)/\(chE kxM [true,true,true,
 true]=(0:Int)->NrG kxM [true,true,true,true])/\rz kS.length none (some (3:Int)) none/\(chE kxM (aM9 kS none (some (3:Int)))=(0:Int)->NrG kxM (aM9
 kS none (some (3:Int))))/\((0:Int)<=(0:Int)/\(0:Int)<(↑kxW.length:Int))/\(Sq BQ (kxW.getD (Int.toNat (0:Int)) (0:Rat))/\ax (3:Int)/\ax (1 :
 Int)/\(1:Int)≠(0:Int))/\((0:Int)<=(1:Int)/\(1:Int)<(↑kxW.length:Int))/\(Sq BQ (kxW.getD (Int.toNat (1:Int)) (0:Rat))/\ax (0:Int)/\ax (1 :
 Int)/\(1:Int)≠(0:Int))/\(Sq BQ kxN/\ax (9:Int)/\ax (1:Int)/\(1:Int)≠(0:Int))/\((0:Int)<=(0:Int)/\(0:Int)<(↑kxB.length:Int))/\(Sq BQ
 (kxB.getD (Int.toNat (0:Int)) (0:Rat))/\ax (1:Int)/\ax (2:Int)/\(2:Int)≠(0:Int))/\((0:Int)<=(2:Int)/\(2:Int)<(↑kxB.length:Int))/\(Sq BQ
 (kxB.getD (Int.toNat (2:Int)) (0:Rat))/\ax (1:Int)/\ax (1:Int)/\(1:Int)≠(0:Int))/\(Sq BQ kxF/\ax (9:Int)/\ax (2:Int)/\(2:Int)≠(0 :
 Int))/\bif decide (mfE t2 kS=(8:Int)) then bif decide (meE t2 kS=(0:Int)) then NyG t2 kS (meY t2 kS)/\bif bif decide (chE t2 kS=(0:Int)) then joB t2 kS (meY
 t2 kS) else false then bif decide (meE kxM kS=(7:Int)) then decide (mfE kxM (aM9 kS none (some (3:Int)))=(5:Int))=true else false=true else false=true
 else false=true else false=true
theorem a6o  : aw a8e [] (a6H ) Tryz.f4 (.k .bool true) []=a2V  :=by kernel_rfl
theorem a6p  (hf:cJ []):a2V  :=by
 obtain ⟨f0,f1,f2,f3,f4⟩:=a8a;have hB:(128:Nat)<=BQ:=by unfold BQ;omega
 have i64:∀z:Int,-100<=z->z<=100->ax z:=fun z h1 h2=>by unfold ax;omega
 have i1:ax 1:=i64 _ (by decide) (by decide);have i2:ax 2:=i64 _ (by decide) (by decide);have i3:ax 3:=i64 _ (by decide) (by decide);have i9:ax 9:=i64 _ (by decide) (by decide);have i0:ax 0:=i64 _ (by decide) (by decide);have im:ax (-9):=i64 _ (by decide) (by decide);have s0:Sq 128 (0:Rat):=Sq.zero _ (by omega);have s1:Sq 128 (1:Rat):=a4T (n:=1) (d:=1) (by kernel_rfl) i1 i1 (by decide);have s3:Sq 128 (3:Rat):=a4T (n:=3) (d:=1) (by kernel_rfl) i3 i1 (by decide);have s9:Sq 128 (9:Rat):=a4T (n:=9) (d:=1) (by kernel_rfl) i9 i1 (by decide);have sh:Sq 128 hfQ:=a4T (n:=1) (d:=2) (by kernel_rfl) i1 i2 (by decide);have sq:Sq 128 kxQ:=a4T (n:= -9) (d:=2) (by kernel_rfl) im i2 (by decide);have sf:Sq 128 kxF:=a4T (n:=9) (d:=2) (by kernel_rfl) i9 i2 (by decide);have sW:SL 128 kxW:=sl2 s3 s0 (by omega);have sX:SL 128 [((3:Int):Rat),((9:Int):Rat)]:=sl2 s3 s9 (by omega);have f0:mfE (twL [0,0,0,2,3,1,5,5]) [false,false,true,true]=0:=f0;have f1:mfW (twL [0,0,0,2,3,1,5,5]) [false,false,true,true]=kxW:=f1;have f2:mfB (twL [0,0,0,2,3,1,5,5]) [false,false,true,true]=kxQ:=f2;have f3:mfD (twL [0,0,0,2,3,1,5,5]) [false,false,true,true]=kxN:=f3;have f4:mfY (twL [0,0,0,2,3,1,5,5]) [false,false,true,true]=kxB:=f4;have ed:dW kxW [((3:Int):Rat),((9:Int):Rat)]=9:=by kernel_rfl
 have es:dW kxW [((3:Int):Rat),((9:Int):Rat)]+kxQ=kxF:=by kernel_rfl
 have c1:(mfW (twL [0,0,0,2,3,1,5,5]) [false,false,true,true]).length=[((3:Int):Rat),((9:Int):Rat)].length->AnG (mfW (twL [0,0,0,2,3,1,5,5]) [false,false,true,true]) (mfB (twL [0,0,0,2,3,1,5,5]) [false,false,true,true]) [((3:Int):Rat),((9:Int):Rat)]:=fun _=>by rw [f1,f2];exact ⟨aSg sW sX (by decide) (by omega),by rw [ed];exact s9.le hB,sq.le hB,by rw [es];exact sf.le hB⟩
 have c8:(1:Nat)<=(mfW (twL [0,0,0,2,3,1,5,5]) [false,false,true,true]).length:=by rw [f1];decide
 have c9:(mfW (twL [0,0,0,2,3,1,5,5]) [false,false,true,true]).length<=(20:Nat):=by rw [f1];decide
 have c3:anS (mfW (twL [0,0,0,2,3,1,5,5]) [false,false,true,true]) (mfB (twL [0,0,0,2,3,1,5,5]) [false,false,true,true]) [((3:Int):Rat),((9:Int):Rat)]=true:=by rw [f1,f2];kernel_rfl
 have c4:anE (mfW (twL [0,0,0,2,3,1,5,5]) [false,false,true,true]) [((3:Int):Rat),((9:Int):Rat)]=0:=by rw [f1];kernel_rfl
 have c5:anY (mfW (twL [0,0,0,2,3,1,5,5]) [false,false,true,true]) (mfB (twL [0,0,0,2,3,1,5,5]) [false,false,true,true]) [((3:Int):Rat),((9:Int):Rat)]=kxF:=by rw [f1,f2];kernel_rfl
 have c2:avz:=by unfold avz;repeat' first | assumption | apply And.intro
 have c6:twL [0,0,0,2,3,1,5,5]=kxM:=rfl;have c7:[false,false,true,true]=kS:=rfl;have g1:NyG kxM kS kxB:=by have:=a4L.ny;rw [a57] at this;exact this
 have aOS:chE kxM (aM9 kS none (some (3:Int)))=5:=by kernel_rfl
 have bbT:mfE kxM (aM9 kS none (some (3:Int)))=5:=(aI (by rw [aOS];decide)).trans aOS;have li:∀l:List Int,l.length<=8->(∀x∈l,ax x)->∀i,ax (l.getD i 0):=fun l _ h i=>by
  rw [au]
  cases e:l[i]? with
  | none=>exact i0
  | some x=>exact h x (tU e)
 have i5:ax 5:=i64 _ (by decide) (by decide);unfold a2V;dsimp only;refine ⟨⟨by decide,li _ (by decide) (by simp [i0,i1,i2,i3,i5])⟩,fun _=>a4L,(),?_,⟨g1,sW.le hB,sq.le hB,s9.le hB⟩,⟨by decide,li _ (by decide) (by simp [i0,i2])⟩,fun _=>a4P,fun _=>a4P,fun _=>a4L,fun h=>absurd (a90.symm.trans h) (by decide),⟨by decide,by decide⟩,fun h=>absurd (aOS.symm.trans h) (by decide),⟨by decide,by decide⟩,⟨s3.le hB,i3,i1,by decide⟩,⟨by decide,by decide⟩,⟨s0.le hB,i0,i1,by decide⟩,⟨s9.le hB,i9,i1,by decide⟩,⟨by decide,by decide⟩,⟨sh.le hB,i1,i2,by decide⟩,⟨by decide,by decide⟩,⟨s1.le hB,i1,i1,by decide⟩,⟨sf.le hB,i9,i2,by decide⟩,?_⟩
 ·repeat' first | assumption | apply And.intro
 ·have y1:mfE (twL [0,0,2,2,0,2,2,0]) kS=8:=a8b;have y2:meE (twL [0,0,2,2,0,2,2,0]) kS=0:=a6Q.1;have y3:meY (twL [0,0,2,2,0,2,2,0]) kS=akv (twL [0,0,2,2,0,2,2,0]) kS:=a6Q.2;have y4:chE (twL [0,0,2,2,0,2,2,0]) kS=0:=a6Z;have y5:joB (twL [0,0,2,2,0,2,2,0]) kS (akv (twL [0,0,2,2,0,2,2,0]) kS)=true:=a4P.jo.trans (jW a61);rw [jW y1,gA,jW y2,gA,y3];refine ⟨a4P.ny,?_⟩;rw [jW y4,gA,y5,gA,jW a7N,gA];exact jW bbT
theorem a6q:aqn (cfg []) a7g:=cf a7S bp Tryz.func4 fun a _ _ _ hc hg hf=>by change a2U a=_ at hc;unfold a2U at hc;split at hc <;> cases hc;cases aY (a6o ) (a6p  hf);exact ⟨rfl,by kernel_rfl,_,by assumption⟩
end Go.Proofs.YtefbmebfkfeefaaGreatDoor.AM
namespace Go.Proofs.YtefbmebfkfeefaaGreatDoor
open Go.ChangeShapes Go.WideShapes Go.ChangeAt Go.RowKit AM
noncomputable def aVX (os:Os):World:={ World.holding Tryz.prog os ⟨#[],#[],[]⟩ with heap:=((World.holding Tryz.prog os ⟨#[],#[],[]⟩).heap.modify 2 (OU #[.int .u8 0,.int .u8 1,.int .u8 56,.int .u8 2,.int .u8 57,.int .u8 49,.int .u8 28,.int .u8 3,.int .u8 61,.int .u8 58,.int .u8 42,.int .u8 50,.int .u8 38,.int .u8 29,.int .u8 17,.int .u8 4,.int .u8 62,.int .u8 47,.int .u8 59,.int .u8 36,.int .u8 45,.int .u8 43,.int .u8 51,.int .u8 22,.int .u8 53,.int .u8 39,.int .u8 33,.int .u8 30,.int .u8 24,.int .u8 18,.int .u8 12,.int .u8 5,.int .u8 63,.int .u8 55,.int .u8 48,.int .u8 27,.int .u8 60,.int .u8 41,.int .u8 37,.int .u8 16,.int .u8 46,.int .u8 35,.int .u8 44,.int .u8 21,.int .u8 52,.int .u8 32,.int .u8 23,.int .u8 11,.int .u8 54,.int .u8 26,.int .u8 40,.int .u8 15,.int .u8 34,.int .u8 20,.int .u8 31,.int .u8 10,.int .u8 25,.int .u8 14,.int .u8 19,.int .u8 9,.int .u8 13,.int .u8 8,.int .u8 7,.int .u8 6])) }
theorem a3e {W:World} (h:laidMetH Tryz.prog Rows.marginKnownRow.laid W):cK W:=by
 have h1:laidMet Tryz.prog [("math/bits.deBruijn64tab",Rows.laid_math_bits_deBruijn64tab)] W:=h
 exact EU (by kernel_rfl) h1 trivial
theorem a1k (H:Type) (enc:TypeId×Value->H) (W:World) (base:Nat) (args:Array Value) (ds gs:List (DataW H)) (before:List MemPlace)
  (fV:∀(j:Nat) t v,Tryz.f4.params[j]? = some t->args[j]? = some v->Value.okWide Tryz.prog W .any base t v)
  (hW:DataW.Whole enc Tryz.prog Tryz.f4.params.toList Rows.marginKnownSpec.vars false W args.toList ds gs before) (aan:cK W) :
  Calls Tryz.prog 4 args W fun e W'=>∃v,e = .returned v/\Rows.marginKnownSpec.post enc Tryz.prog Tryz.f4 false true false false W args v W':=by
 have YR:=hW
 obtain ⟨p,q,hA0,hV,rfl,hfz,hnd⟩:=hW
 have hA:DataW.TrodAll enc Tryz.prog W 0 (fun _=>true) true Tryz.f4.params.toList args.toList ds p:=hA0
 rw [Tryz.params4] at hA fV
 obtain ⟨IE,rfl,rfl⟩:=trodAll_nil hA
 obtain rfl:args = #[]:=by cases args;simp_all
 obtain ⟨rfl,rfl⟩:=trodVars_none hV
 clear hA0
 refine (Mg (args:=[]) (vs:=[]) a6q rfl trivial aan trivial).mono fun e W' ⟨he,hg⟩=>?_
 subst he
 exact ⟨_,rfl,OV rfl rfl (fun t ht=>by rw [Tryz.params4] at ht;simp at ht) YR ⟨rfl,rfl,rfl⟩ hg⟩
theorem a4U (os:Os):laidMet Tryz.prog Rows.marginKnownRow.laid ((aVX os).forCall (fun _ _=>0) ⟨#[],#[],[]⟩).memory:=laidMet_of_run' 8 (by kernel_rfl) (by kernel_rfl)
theorem a3i (os:Os) {H:Type} (enc:TypeId×Value->H):∃places,DataW.whole enc Tryz.prog ((aVX os).forCall (fun _ _=>0) ⟨#[],#[],[]⟩).memory Tryz.f4.params.toList Rows.marginKnownSpec.vars false (#[]:Array Value).toList 8=some ([],[],places):=⟨[],by kernel_rfl⟩
theorem a2p (os:Os) (started:os.Started) (H:Type) (enc:TypeId×Value->H) (F:Stop.Interp) :
  ReturnsInHanded {} Tryz.checked os 4 .any ((OpenSpec.ofChange Rows.marginKnownSpec).preRow enc Tryz.prog Tryz.f4 Rows.marginKnownRow.domain false Rows.marginKnownRow.laid) (((OpenSpec.ofChange Rows.marginKnownSpec).at F).post enc Tryz.prog Tryz.f4 false true false false):=by
 obtain ⟨places,hx⟩:=a3i os enc
 refine returnsInHanded_of_row (C:=Tryz.checked) (s:=OpenSpec.ofChange Rows.marginKnownSpec) own started (by kernel_rfl) Tryz.func4
  (witness_row_at (enc:=enc) (C:=Tryz.checked) false (aVX os) #[] rfl (by kernel_rfl) (by kernel_rfl) (by kernel_rfl)
   (OpenSpec.preRow_of_cond 8 hx (by kernel_rfl) (fun k hk=>by cases hk) (by kernel_rfl) (a4U os))) ?_
 intro W base args ds gs before fV hW _ _ _ hL _ _
 exact a1k H enc W base args ds gs before fV hW (a3e hL)
theorem a3j:Rows.MarginKnownSaid:=
 OpenClaim.holds_of_cond 4 Tryz.f4 rfl rfl rfl rfl rfl rfl rfl ⟨rfl,rfl,rfl,rfl,rfl⟩ rfl rfl rfl rfl rfl (by kernel_rfl) Tryz.func4 (by kernel_rfl)
  (qX (by kernel_rfl)) (by unfold Func.isWrapper;first | (rw [aV (by decide +kernel)];kernel_rfl) | (rw [aI (by decide +kernel)];exact ⟨rfl,rfl⟩))
  (fun os started H enc _ F=>by rw [OpenClaim.pre_eq_preRow];exact a2p os started H enc F)
theorem a3k (f:FuncId) (fn:Func) (hf:Tryz.pinned.checked.prog.funcNamed "abaculus/abaculuslaw32.MarginKnown" = some f) (hfn:Tryz.pinned.checked.prog.funcs[f]? = some fn) :
  false=Tryz.pinned.checked.prog.looks []/\∀(j:Nat) t,fn.params[j]? = some t->Tryz.pinned.checked.prog.wantsStandIn t=false:=by
 obtain rfl:f=4:=Option.some.inj ((show Tryz.prog.funcNamed "abaculus/abaculuslaw32.MarginKnown" = some 4 by kernel_rfl).symm.trans hf) |>.symm
 obtain rfl:fn=Tryz.f4:=(Option.some.inj (Tryz.func4.symm.trans hfn)).symm
 refine ⟨by kernel_rfl,fun j t ht=>?_⟩
 rw [Tryz.params4] at ht
 have hm:t∈[]:=by simpa using Array.mem_of_getElem? ht
 have bB:([].all fun u=> !Tryz.prog.wantsStandIn u)=true:=by kernel_rfl
 exact (show Tryz.prog.wantsStandIn t=false by simpa using uX.1 bB t hm)
theorem marginKnownCard_holds:Rows.MarginKnownCardSaid:=Claim7.holds_tied_plain_at .later [] _ _ _ _ a3j (fun _ h=>by cases h) (by kernel_rfl) (fun _ h=>by cases h) marginKnown_row_tie rfl ⟨rfl,rfl⟩ (by kernel_rfl) rfl a3k (by kernel_rfl)
#print axioms marginKnownCard_holds
end Go.Proofs.YtefbmebfkfeefaaGreatDoor
