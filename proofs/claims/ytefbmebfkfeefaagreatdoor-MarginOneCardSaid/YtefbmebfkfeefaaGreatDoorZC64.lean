/- rows in another order, and with one twice, have the line of Fit. MarginOne, by abstract execution. (Printed by vc.py.) Abstract execution: a region that draws its order: what only reads is taken first, then every order of the rest. Abstract execution: a region that draws its order, its operations numbered anew. The line of rows in another order, one of them twice. MarginMoves: what moved rows and exchanged sides have. law32.drawn and MarginFits, by abstract execution. (Printed by vc.py.) The line of the widest street: what it hangs on; other orders, doubled rows, moved rows, sides exchanged. MarginFits: what the steps end in; the rows that are drawn. MarginMany, by abstract execution. (Printed by vc.py.) The document's widest street, by abstract execution. (Printed by vc.py.) margin.Same, Joins, Meet, Proof, by abstract execution. (Printed by vc.py.) margin.Fit, Same; chapter 32's known example; the document's errors; by abstract execution. (Printed by vc.py.) The document's lines of least squares, by abstract execution. (Printed by vc.py.) The document's determinants and inverses, by abstract execution. (Printed by vc.py.) elim.Det: determinants by elimination, by abstract execution. (Printed by vc.py.) The document's reduced forms, kernels, solutions, by abstract execution. (Printed by vc.py.) Chapter 12's statements: the line of least squares, by abstract execution. (Printed by vc.py.) Least squares: what a fitted line is. -/
import Derived.Test.YtefbmebfkfeefaaGreatDoorCards
import Derived.Test.YtefbmebfkfeefaaGreatDoorBd12
set_option maxRecDepth 100000
set_option linter.unusedVariables false
set_option linter.unusedSimpArgs false
set_option maxHeartbeats 1000000
namespace Go.Proofs.YtefbmebfkfeefaaGreatDoor.AM
section
variable {x:List (List Rat)} {y:List Rat} {r:Rat}
end
open Go.RowKit
def a4V:az:=⟨20,false,fun args=>match args with
 | [.k (.list (.int .i64)) l,.k (.int .i64) n,.k (.int .i64) m]=>some (some ((∀i,ax (l.getD i 0))/\((0:Int)<=n/\n<=1000000)/\(0:Int)<=m/\m<=1000000),.k (.list (.list .rq)) (aG n.toNat m.toNat fun i j=>cE l (i*m.toNat+j)),[])
 | _=>none⟩
theorem asq:aqn (cfg []) a4V:=ly agI fun args g r hn hc hg=>by
 split at hc
 ·rename_i l n m
  cases hc;obtain ⟨h1,⟨h2,h3⟩,h4,h5⟩:=hg;have h2 : @LE.le Int _ 0 n:=h2;have h3 : @LE.le Int _ n 1000000:=h3;have h4 : @LE.le Int _ 0 m:=h4;have h5 : @LE.le Int _ m 1000000:=h5;obtain ⟨a,rfl⟩:=Ck h2;obtain ⟨b,rfl⟩:=Ck h4;exact ⟨_,rfl,h1,by omega,by omega⟩
 ·cases hc
theorem arz {a:Int} (h:ax a):Sq 256 (a:Rat):=(Sq.int (k:=64) (Sm.lit (by unfold ax at h;omega)) (by omega)).le (by omega)
theorem asO {a:Int} (h:ax a):SL 256 [(a:Rat)]:=fun i=>match i with
 | 0=>arz h
 | _+1=>Sq.zero _ (by omega)
def SzQ (M:LM) (k:Nat) (x:Rat):Prop:=∀s,1<=s->SM s M->Sq (s*5^k) x
structure DI (M:LM) (k:Nat) (d:Rat) (F:Nat->Nat->Rat):Prop where
 det:acb M.length (el M) k d F
 szF:∀i j,SzQ M k (F i j)
 szD:SzQ M k d
section
variable {x:List (List Rat)} {y:List Rat} {r:Rat}
end
theorem aTF {x:Rat}:x.num.sign=0↔x=0:=by
 constructor
 ·intro h;have h1:¬x<0:=fun h2=>by have:=aO0.2 h2;omega
  have h3:¬0<x:=fun h2=>by have:=aUp.2 h2;omega
  grind
 ·intro h;rw [h];rfl
theorem NrG.aVw {M:List (List Rat)} {is:List Bool} (h:NrG M is):(akv M is).length=M.length/\HdW M.length (al M) (vMg M is) (ub is) (cw (akv M is))/\∃lm,OpW M.length (al M) (vMg M is) (ub is) (cw (akv M is)) lm:=by have S:=h.start;obtain ⟨a1,a2,a3⟩:=aSe (muW M.length (al M) (vMg M is) (ub is) (cw (stP is M.length 2))+1) S.lb S.hd (tF _);obtain ⟨lm,b1,_⟩:=aVW S.lb S.hd;have e:aZH M.length (al M) (vMg M is) (ub is) (muW M.length (al M) (vMg M is) (ub is) (cw (stP is M.length 2))+1) (stP is M.length 2)=akv M is:=S.en;rw [e] at a1 a2;rw [S.en] at b1;exact ⟨a2,a1,lm,b1⟩
theorem NrG.mg {M:List (List Rat)} {is:List Bool} (h:NrG M is):MgG M is (akv M is):=by obtain ⟨a1,a2,_⟩:=h.aVw;exact ⟨h.right,h.len,h.n24,h.w3,h.sM,a1,(h.hd a1 a2).le (by unfold GB;omega)⟩
noncomputable def aOu (M:List (List Rat)) (is:List Bool):Rat:=dW (wyL M is (akv M is)) (wyL M is (akv M is))
noncomputable def mfE (M:List (List Rat)) (is:List Bool):Int:=if chE M is=0 then (if aOu M is=0 then 8 else 0) else chE M is
noncomputable def mfW (M:List (List Rat)) (is:List Bool):List Rat:=if mfE M is=0 then wyL M is (akv M is) else []
noncomputable def mfB (M:List (List Rat)) (is:List Bool):Rat:=if mfE M is=0 then stQ M is (akv M is) else 0
noncomputable def mfD (M:List (List Rat)) (is:List Bool):Rat:=if mfE M is=0 then aOu M is else 0
noncomputable def mfY (M:List (List Rat)) (is:List Bool):List Rat:=if mfE M is=0 then akv M is else []
theorem aVx {M:List (List Rat)} {is:List Bool} {e:Int} (h:mfE M is=e) (h0:e≠0):((mfW M is=[]/\0=mfB M is)/\0=mfD M is/\mfY M is=[])/\e=mfE M is:=by
 have hn:¬mfE M is=0:=by rw [h];exact h0
 unfold mfW mfB mfD mfY;rw [aI hn,aI hn,aI hn,aI hn];exact ⟨⟨⟨rfl,rfl⟩,rfl,rfl⟩,h.symm⟩
theorem aUq {M:List (List Rat)} {is:List Bool} (h:mfE M is=0):((wyL M is (akv M is)=mfW M is/\stQ M is (akv M is)=mfB M is)/\aOu M is=mfD M is/\akv M is=mfY M is)/\0=mfE M is:=by unfold mfW mfB mfD mfY;rw [aV h,aV h,aV h,aV h];exact ⟨⟨⟨rfl,rfl⟩,rfl,rfl⟩,h.symm⟩
noncomputable def LJ6:List az:=aTd::aQS::aRB::Nj::[]
theorem aV7:bd LJ6:=⟨aTz,aRt,aSp,J0,trivial⟩
noncomputable def a5A:List AV->Option (Option Prop×AV×List Ob)
 | [.k (.list (.list .q)) M,.k (.list .bool) is]=>some (some (chE M is=0->NrG M is),T2 (.agg (.cons (.agg (.cons (.k (.list .q) (mfW M is)) (.cons (.k .q (mfB M is)) .nil))) (.cons (.k .q (mfD M is)) (.cons (.k (.list .q) (mfY M is)) .nil)))) (.k (.int .i64) (mfE M is)),[])
 | _=>none
noncomputable def aT3:az:=⟨6,false,a5A⟩
noncomputable def aVy (M:List (List Rat)) (is:List Bool):bk:=⟨nU,nL,nR,nU⟩
def aT4 (M:List (List Rat)) (is:List Bool):Prop:=
 let t1:=wyL M is (akv M is);
 bif !decide (chE M is=(0:Int)) then ((mfW M is=[]/\(0:Rat)=mfB M is)/\(0:Rat)=mfD M is/\mfY M is=[])/\chE M is=mfE M is else NrG M is/\MgG M is
 (akv M is)/\Sq BQ (dW t1 t1)/\bif decide ((dW t1 t1).num.sign=(0:Int)) then ((mfW M is=[]/\(0:Rat)=mfB M is)/\(0:Rat)=mfD M is/\mfY M is=[]) /\
 (8:Int)=mfE M is else ((wyL M is (akv M is)=mfW M is/\stQ M is (akv M is)=mfB M is)/\dW t1 t1=mfD M is/\akv M is=mfY M is)/\(0:Int)=mfE M is
theorem aUH (M:List (List Rat)) (is:List Bool):aw LJ6 [] (aVy M is) Tryz.f6 (T2 (.agg (.cons (.agg (.cons (.k (.list .q) (mfW M is)) (.cons (.k .q (mfB M is)) .nil))) (.cons (.k .q (mfD M is)) (.cons (.k (.list .q) (mfY M is)) .nil)))) (.k (.int .i64) (mfE M is))) [.k (.list (.list .q)) M,.k (.list .bool) is]=aT4 M is:=by kernel_rfl
theorem aUI (M:List (List Rat)) (is:List Bool) (hg:chE M is=0->NrG M is):aT4 M is:=by
 unfold aT4;dsimp only;refine dP (fun h=>aVx (aI h) h) fun h=>?_
 have g:=hg h;have hd:Sq 700000000 (dW (wyL M is (akv M is)) (wyL M is (akv M is))):=aVi g.mg.sw g.mg.sw g.mg.lw (by omega);refine ⟨g,g.mg,hd.le (by unfold BQ;omega),aH (fun h2=>?_) fun h2=>?_⟩
 ·have e:mfE M is=8:=by
   unfold mfE;rw [aV h];exact aV (aTF.1 h2)
  exact aVx e (by decide)
 ·have e:mfE M is=0:=by
   unfold mfE;rw [aV h];exact aI fun h3=>h2 (aTF.2 h3)
  exact aUq e
theorem aRD:aqn (cfg []) aT3:=cf aV7 bp Tryz.func6 fun a _ _ _ hc hg hf=>by change a5A a=_ at hc;unfold a5A at hc;split at hc <;> cases hc;cases aY (aUH _ _) (aUI _ _ hg);exact ⟨rfl,by kernel_rfl,_,by assumption⟩
def knM:List (List Rat):=[[((0:Int):Rat)],[((2:Int):Rat)]]
def knS:List Bool:=[false,true]
theorem aXY:chE knM knS=0:=by
 have h1:Shp knM knS:=⟨rfl,by decide,by decide,rfl⟩
 unfold chE;rw [aV h1,aI (by decide)];exact aI fun h=>absurd (h 1 (by decide)) (by decide)
theorem aVz:NrG knM knS:=by
 have i0:ax 0:=by unfold ax;omega
 have i2:ax 2:=by unfold ax;omega
 refine ⟨rfl,rfl,by decide,by decide,fun i=>match i with
  | 0=>asO i0
  | 1=>asO i2
  | _+2=>SL.nil (by omega),fun i j=>match i,j with
  | 0,0=>⟨0,by decide,by kernel_rfl⟩
  | 0,_+1=>⟨0,by decide,by kernel_rfl⟩
  | 1,0=>⟨24,by decide,by kernel_rfl⟩
  | 1,_+1=>⟨0,by decide,by kernel_rfl⟩
  | _+2,_=>⟨0,by decide,by kernel_rfl⟩,fun t=>match t with
  | true=>⟨1,by decide,rfl⟩
  | false=>⟨0,by decide,rfl⟩⟩
theorem aV8:cw (akv knM knS) 0=1/\cw (akv knM knS) 1=1:=by obtain ⟨_,_,lm,h⟩:=aVz.aVw;have h0:0+(if ub knS 0=false then cw (akv knM knS) 0 else 0)+(if ub knS 1=false then cw (akv knM knS) 1 else 0)=1:=h.sum false;have h1:0+(if ub knS 0=true then cw (akv knM knS) 0 else 0)+(if ub knS 1=true then cw (akv knM knS) 1 else 0)=1:=h.sum true;rw [aV (show ub knS 0=false from rfl),aI (show ¬ub knS 1=false by decide)] at h0;rw [aI (show ¬ub knS 0=true by decide),aV (show ub knS 1=true from rfl)] at h1;exact ⟨by grind,by grind⟩
theorem aVA:ptS knM knS (akv knM knS) true 2 0=2/\ptS knM knS (akv knM knS) false 2 0=0:=by
 obtain ⟨h0,h1⟩:=aV8;have e0:el knM 0 0=0:=by kernel_rfl
 have e1:el knM 1 0=2:=by kernel_rfl
 constructor
 ·show 0+(if ub knS 0=true then el knM 0 0*cw (akv knM knS) 0 else 0)+(if ub knS 1=true then el knM 1 0*cw (akv knM knS) 1 else 0)=2;rw [aI (show ¬ub knS 0=true by decide),aV (show ub knS 1=true from rfl),h1,e1];grind
 ·show 0+(if ub knS 0=false then el knM 0 0*cw (akv knM knS) 0 else 0)+(if ub knS 1=false then el knM 1 0*cw (akv knM knS) 1 else 0)=0;rw [aV (show ub knS 0=false from rfl),aI (show ¬ub knS 1=false by decide),h0,e0];grind
theorem aVB (t:Bool):ptL knM knS (akv knM knS) t=[ptS knM knS (akv knM knS) t 2 0]:=rfl
theorem aVC:wyL knM knS (akv knM knS)=[2]:=by obtain ⟨h0,h1⟩:=aVA;have e:wyL knM knS (akv knM knS)=[ptS knM knS (akv knM knS) true 2 0-ptS knM knS (akv knM knS) false 2 0]:=rfl;rw [e,h0,h1];congr 1;grind
theorem aV9:mfE knM knS=0/\mfW knM knS=[2]/\mfB knM knS = -2/\mfD knM knS=4:=by
 have hd:aOu knM knS=4:=by unfold aOu;rw [aVC];kernel_rfl
 have he:mfE knM knS=0:=by unfold mfE;rw [aV aXY,hd];exact aI (by decide)
 obtain ⟨⟨⟨a1,a2⟩,a3,_⟩,_⟩:=aUq he;refine ⟨he,by rw [<-a1];exact aVC,?_,by rw [<-a3];exact hd⟩;rw [<-a2];unfold stQ;obtain ⟨h0,h1⟩:=aVA;rw [aVB,aVB,h0,h1];kernel_rfl
noncomputable def LJ7:List az:=aa5::aa9::aT3::[]
theorem aWa:bd LJ7:=⟨V5,WS,aRD,trivial⟩
def a3I:List AV->Option (Option Prop×AV×List Ob)
 | []=>some (none,.k .bool true,[])
 | _=>none
def aTG:az:=⟨8,false,a3I⟩
def aT5  : bk:=⟨nU,nL,nR,nU⟩
def aQT  : Prop:=
 let t1:=mfW [[(↑(0:Int):Rat)],[(↑(2:Int):Rat)]] [false,true];
 ax (0:Int)/\ax (2:Int)/\(chE [[(↑(0:Int):Rat)],[(↑(2:Int):Rat)]] [false,true]=(0:Int)->NrG [[(↑(0:Int):Rat)],[(↑(2:Int):Rat)]] [false,
 true])/\(t1.length<=aB->((0:Int)<=(0:Int)/\(0:Int)<(↑t1.length:Int))/\(Sq BQ (t1.getD (Int.toNat (0:Int)) (0:Rat))/\ax (2:Int)/\ax (1:Int)
 /\ (1:Int)≠(0:Int))/\(Sq BQ (mfB [[(↑(0:Int):Rat)],[(↑(2:Int):Rat)]] [false,true])/\ax (-2:Int)/\ax (1:Int)/\(1:Int)≠(0:Int))/\(Sq BQ
 (mfD [[(↑(0:Int):Rat)],[(↑(2:Int):Rat)]] [false,true])/\ax (4:Int)/\ax (1:Int)/\(1:Int)≠(0:Int))/\decide (mfD [[(↑(0:Int):Rat)],[(↑(2 :
 Int):Rat)]] [false,true]=(↑(4:Int):Rat)/(↑(1:Int):Rat))=true)
theorem aTH  : aw LJ7 [] (aT5 ) Tryz.f8 (.k .bool true) []=aQT  :=by kernel_rfl
theorem aTJ  (hf:cJ []):aQT  :=by
 obtain ⟨e0,e1,e2,e3⟩:=aV9;have i0:ax 0:=by unfold ax;omega
 have i1:ax 1:=by unfold ax;omega
 have i2:ax 2:=by unfold ax;omega
 have im:ax (-2):=by unfold ax;omega
 have i4:ax 4:=by unfold ax;omega
 have hB:(256:Nat)<=BQ:=by unfold BQ;omega
 unfold aQT;dsimp only;change ax 0/\ax 2/\(chE knM knS=0->NrG knM knS)/\((mfW knM knS).length<=aB->(_/\(0:Int)<((mfW knM knS).length:Int))/\(Sq BQ ((mfW knM knS).getD _ 0)/\_)/\(Sq BQ (mfB knM knS)/\_)/\(Sq BQ (mfD knM knS)/\_)/\decide (mfD knM knS=_)=true)
 rw [e1,e2,e3];exact ⟨i0,i2,fun _=>aVz,fun _=>⟨⟨by omega,by decide⟩,⟨(arz i2).le hB,i2,i1,by decide⟩,⟨(arz im).le hB,im,i1,by decide⟩,⟨(arz i4).le hB,i4,i1,by decide⟩,by kernel_rfl⟩⟩
theorem aTK:aqn (cfg []) aTG:=cf aWa bp Tryz.func8 fun a _ _ _ hc hg hf=>by change a3I a=_ at hc;unfold a3I at hc;split at hc <;> cases hc;cases aY (aTH ) (aTJ  hf);exact ⟨rfl,by kernel_rfl,_,by assumption⟩
def PrP (M:List (List Rat)) (is:List Bool) (W:List Rat) (B D:Rat) (Y:List Rat):Prop:=WtP Y is/\W=wyL M is Y/\B=stQ M is Y/\D=dW (wyL M is Y) (wyL M is Y)/\0<D/\∀i,i<M.length->aGr M is Y i=false
instance (M:List (List Rat)) (is:List Bool) (W:List Rat) (B D:Rat) (Y:List Rat):Decidable (PrP M is W B D Y):=by unfold PrP;infer_instance
def PrC (M:List (List Rat)) (is:List Bool) (W:List Rat) (B D:Rat) (Y:List Rat):Prop:=chE M is=0/\PrP M is W B D Y
instance (M:List (List Rat)) (is:List Bool) (W:List Rat) (B D:Rat) (Y:List Rat):Decidable (PrC M is W B D Y):=by unfold PrC;infer_instance
def SlP (W V:List Rat) (B A:Rat):Prop:=W=V/\B=A
instance (W V:List Rat) (B A:Rat):Decidable (SlP W V B A):=by unfold SlP;infer_instance
def SmP (W V:List Rat) (B A D E:Rat):Prop:=W=V/\B=A/\D=E
instance (W V:List Rat) (B A D E:Rat):Decidable (SmP W V B A D E):=by unfold SmP;infer_instance
theorem NrG.wt {M:List (List Rat)} {is:List Bool} (h:NrG M is):WtP (akv M is) is:=by
 obtain ⟨a1,a2,lm,O⟩:=h.aVw;refine ⟨by rw [a1,h.len],fun i _=>a2.nn i,?_,?_⟩
 ·rw [a1];exact O.sum true
 ·rw [a1];exact O.sum false
structure NyG (M:List (List Rat)) (is:List Bool) (b:List Rat):Prop where
 nr:chE M is=0->NrG M is
 n24:b.length<=24
 sb:SL GB b
theorem NyG.mg {M:List (List Rat)} {is:List Bool} {b:List Rat} (h:NyG M is b) (h0:chE M is=0) (hw:WtP b is):MgG M is b:=by have g:=h.nr h0;exact ⟨g.right,g.len,g.n24,g.w3,g.sM,by rw [hw.1,g.len],h.sb⟩
theorem NrG.ny {M:List (List Rat)} {is:List Bool} (h:NrG M is):NyG M is (akv M is):=⟨fun _=>h,by rw [h.aVw.1];exact h.n24,h.mg.sb⟩
noncomputable def aZM:List az:=ND::Ke::[]
theorem aZx:bd aZM:=⟨KP,z7,trivial⟩
def a3L:List AV->Option (Option Prop×AV×List Ob)
 | [.agg (.cons (.k (.list .q) W) (.cons (.k .q B) .nil)),.agg (.cons (.k (.list .q) V) (.cons (.k .q A) .nil))]=>some (some ((SL BQ W/\SL BQ V)/\Sq BQ B/\Sq BQ A),.k .bool (decide (SlP W V B A)),[])
 | _=>none
def aYc:az:=⟨26,false,a3L⟩
def aYU (W:List Rat) ( B:Rat) (V:List Rat) ( A:Rat):bk:=⟨nU,nL,nR,nU⟩
def aXa (W:List Rat) ( B:Rat) (V:List Rat) ( A:Rat):Prop:=(SL BQ W/\SL BQ V)/\bif decide (W=V) then (Sq BQ B/\Sq BQ A)/\decide (fS B A=(0:Int))=decide (SlP W V B A) else false=decide (SlP W V B A)
theorem aYd (W:List Rat) ( B:Rat) (V:List Rat) ( A:Rat):aw aZM [] (aYU W B V A) Tryz.f26 (.k .bool (decide (SlP W V B A))) [.agg (.cons (.k (.list .q) W) (.cons (.k .q B) .nil)),.agg (.cons (.k (.list .q) V) (.cons (.k .q A) .nil))]=aXa W B V A:=by kernel_rfl
theorem aYg (W:List Rat) ( B:Rat) (V:List Rat) ( A:Rat) (hg:(SL BQ W/\SL BQ V)/\Sq BQ B/\Sq BQ A):aXa W B V A:=by obtain ⟨h1,h2⟩:=hg;unfold aXa;refine ⟨h1,aH (fun e=>⟨h2,yT.2 ⟨fun h=>⟨e,gz.1 h⟩,fun h=>gz.2 h.2⟩⟩) fun e=>(iQ fun h=>e h.1).symm⟩
theorem aYh:aqn (cfg []) aYc:=cf aZx bp Tryz.func26 fun a _ _ _ hc hg hf=>by change a3L a=_ at hc;unfold a3L at hc;split at hc <;> cases hc;cases aY (aYd _ _ _ _) (aYg _ _ _ _ hg);exact ⟨rfl,by kernel_rfl,_,by assumption⟩
noncomputable def a0g:List az:=aYc::Ke::[]
theorem aZN:bd a0g:=⟨aYh,z7,trivial⟩
def a3M:List AV->Option (Option Prop×AV×List Ob)
 | [.agg (.cons (.agg (.cons (.k (.list .q) W) (.cons (.k .q B) .nil))) (.cons (.k .q D) (.cons (.k (.list .q) Y) .nil))),.agg (.cons (.agg (.cons (.k (.list .q) V) (.cons (.k .q A) .nil))) (.cons (.k .q E) (.cons (.k (.list .q) Z) .nil)))]=>some (some (((SL BQ W/\SL BQ V)/\Sq BQ B/\Sq BQ A)/\Sq BQ D/\Sq BQ E),.k .bool (decide (SmP W V B A D E)),[])
 | _=>none
def aYi:az:=⟨10,false,a3M⟩
def aYV (W:List Rat) ( B  D:Rat) ( Y V:List Rat) ( A  E:Rat) ( Z:List Rat):bk:=⟨nU,nL,nR,nU⟩
def aXb (W:List Rat) ( B  D:Rat) ( Y V:List Rat) ( A  E:Rat) ( Z:List Rat):Prop:=((SL BQ W/\SL BQ V)/\Sq BQ B/\Sq BQ A)/\bif decide (SlP W V B A) then (Sq BQ D/\Sq BQ E)/\decide (fS D E=(0:Int))=decide (SmP W V B A D E) else false =
 decide (SmP W V B A D E)
theorem aYj (W:List Rat) ( B  D:Rat) ( Y V:List Rat) ( A  E:Rat) ( Z:List Rat):aw a0g [] (aYV W B D Y V A E Z) Tryz.f10 (.k .bool (decide (SmP W V B A D E))) [.agg (.cons (.agg (.cons (.k (.list .q) W) (.cons (.k .q B) .nil))) (.cons (.k .q D) (.cons (.k (.list .q) Y) .nil))),.agg (.cons (.agg (.cons (.k (.list .q) V) (.cons (.k .q A) .nil))) (.cons (.k .q E) (.cons (.k (.list .q) Z) .nil)))]=aXb W B D Y V A E Z:=by kernel_rfl
theorem aYk (W:List Rat) ( B  D:Rat) ( Y V:List Rat) ( A  E:Rat) ( Z:List Rat) (hg:((SL BQ W/\SL BQ V)/\Sq BQ B/\Sq BQ A)/\Sq BQ D/\Sq BQ E) (hf:cJ [.agg (.cons (.agg (.cons (.k (.list .q) W) (.cons (.k .q B) .nil))) (.cons (.k .q D) (.cons (.k (.list .q) Y) .nil))),.agg (.cons (.agg (.cons (.k (.list .q) V) (.cons (.k .q A) .nil))) (.cons (.k .q E) (.cons (.k (.list .q) Z) .nil)))]):aXb W B D Y V A E Z:=by obtain ⟨h1,h2⟩:=hg;unfold aXb;refine ⟨h1,aH (fun e=>⟨h2,yT.2 ⟨fun h=>⟨e.1,e.2,gz.1 h⟩,fun h=>gz.2 h.2.2⟩⟩) fun e=>(iQ fun h=>e ⟨h.1,h.2.1⟩).symm⟩
theorem aYl:aqn (cfg []) aYi:=cf aZN bp Tryz.func10 fun a _ _ _ hc hg hf=>by change a3M a=_ at hc;unfold a3M at hc;split at hc <;> cases hc;cases aY (aYj _ _ _ _ _ _ _ _) (aYk _ _ _ _ _ _ _ _ hg hf);exact ⟨rfl,by kernel_rfl,_,by assumption⟩
noncomputable def aZe:List az:=aYi::aTd::aWJ::aRA::aVm::aRB::Nj::Ke::[]
theorem aXc:bd aZe:=⟨aYl,aTz,aW8,aSj,aUE,aSp,J0,z7,trivial⟩
def a3O:List AV->Option (Option Prop×AV×List Ob)
 | [.agg (.cons (.agg (.cons (.k (.list .q) W) (.cons (.k .q B) .nil))) (.cons (.k .q D) (.cons (.k (.list .q) Y) .nil))),.k (.list (.list .q)) M,.k (.list .bool) is]=>some (some (NyG M is Y/\SL BQ W/\Sq BQ B/\Sq BQ D),.k .bool (decide (PrC M is W B D Y)),[])
 | _=>none
def aYo:az:=⟨11,false,a3O⟩
def aYX (W:List Rat) ( B  D:Rat) ( Y:List Rat) (M:List (List Rat)) (is:List Bool):bk:=⟨fun key_=>match key_ with | 3=>6 | _=>0,fun key_=>match key_ with
 | 8=>some (⟨Nat,fun i=>[(2,.k (.list .bool) is),(7,.k (.list .q) (ptL M is Y true)),(8,.k (.list .q) (ptL M is Y false)),(9,.k (.list .q) W),(48,.k (.list (.list .q)) M),(49,.k (.int .i64) ((M.length:Nat):Int)),(50,.k (.int .i64) ((i:Nat):Int))],
 fun _=>[],fun _ i=>i<=M.length/\∀j,j<i->aGr M is Y j=false,fun i=>M.length-i⟩) | _=>none,nR,nU⟩
def aUS (W:List Rat) ( B  D:Rat) ( Y:List Rat) (M:List (List Rat)) (is:List Bool) (x:Nat):Prop:=((0:Int)<=(↑x:Int)/\(↑x:Int)<(↑is.length:Int))/\bif !is.getD (↑x:Int).toNat false then (W.length=(M.getD (↑x:Int).toNat []).length/\lM W (M.getD (↑x
 : Int).toNat []))/\(W.length=(ptL M is Y false).length/\lM W (ptL M is Y false))/\(Sq BQ (dW W (M.getD (↑x:Int).toNat []))/\Sq BQ (dW W (ptL M is Y false)))
 /\ bif decide ((0:Int)<fS (dW W (M.getD (↑x:Int).toNat [])) (dW W (ptL M is Y false))) then false=decide (PrC M is W B D Y) else ax ((↑x:Int)+(1 :
 Int))/\∃(x':Nat),(is=is/\ptL M is Y true=ptL M is Y true/\ptL M is Y false=ptL M is Y false/\W=W/\M=M/\(↑M.length:Int)=(↑M.length:Int)/\(↑x :
 Int)+(1:Int)=(↑x':Int))/\(x'<=M.length/\∀(j:Nat),j<x'->aGr M is Y j=false)/\M.length-x'<M.length-x else ax ((↑x:Int)+(1:Int))/\∃(x'
 : Nat),(is=is/\ptL M is Y true=ptL M is Y true/\ptL M is Y false=ptL M is Y false/\W=W/\M=M/\(↑M.length:Int)=(↑M.length:Int)/\(↑x:Int)+(1 :
 Int)=(↑x':Int))/\(x'<=M.length/\∀(j:Nat),j<x'->aGr M is Y j=false)/\M.length-x'<M.length-x
def aXf (W:List Rat) ( B  D:Rat) ( Y:List Rat) (M:List (List Rat)) (is:List Bool):Prop:=bif !decide (chE M is=(0:Int)) then false=decide (PrC M is W B D Y) else (Y.length<=(24:Nat)/\SL GB Y)/\bif !decide (WtP Y is) then false=decide (PrC M is W
 B D Y) else MgG M is Y/\(((SL BQ W/\SL BQ (wyL M is Y))/\Sq BQ B/\Sq BQ (stQ M is Y))/\Sq BQ D/\Sq BQ (dW (wyL M is Y) (wyL M is Y)))/\bif !decide (SmP W (wyL M
 is Y) B (stQ M is Y) D (dW (wyL M is Y) (wyL M is Y))) then false=decide (PrC M is W B D Y) else Sq BQ D/\bif decide (D.num.sign<=(0:Int)) then false=decide
 (PrC M is W B D Y) else MgG M is Y/\(M.length<=aB->∃(x0:Nat),(is=is/\ptL M is Y true=ptL M is Y true/\ptL M is Y false=ptL M is Y false/\W=W/\M=M /\
 (↑M.length:Int)=(↑M.length:Int)/\(0:Int)=(↑x0:Int))/\(x0<=M.length/\∀(j:Nat),j<x0->aGr M is Y j=false)/\∀(x:Nat),
 let u1:=M.getD (↑x:Int).toNat [];(x<=M.length/\∀(j:Nat),j<x->aGr M is Y j=false)->bif decide ((↑x:Int)<(↑M.length:Int)) then ((0:Int)<=(↑x :
 Int)/\(↑x:Int)<(↑M.length:Int))/\((0:Int)<=(↑x:Int)/\(↑x:Int)<(↑is.length:Int))/\bif is.getD (↑x:Int).toNat false then (W.length=u1.length/\lM
 W u1)/\(W.length=(ptL M is Y true).length/\lM W (ptL M is Y true))/\(Sq BQ (dW W u1)/\Sq BQ (dW W (ptL M is Y true)))/\bif decide (fS (dW W u1) (dW W
 (ptL M is Y true))<(0:Int)) then false=decide (PrC M is W B D Y) else aUS W B D Y M is x else aUS W B D Y M is x else true=decide (PrC M is W B D Y))
theorem aYp (W:List Rat) ( B  D:Rat) ( Y:List Rat) (M:List (List Rat)) (is:List Bool):aw aZe [] (aYX W B D Y M is) Tryz.f11 (.k .bool (decide (PrC M is W B D Y))) [.agg (.cons (.agg (.cons (.k (.list .q) W) (.cons (.k .q B) .nil))) (.cons (.k .q D) (.cons (.k (.list .q) Y) .nil))),.k (.list (.list .q)) M,.k (.list .bool) is]=aXf W B D Y M is:=by kernel_rfl
theorem aYq (W:List Rat) ( B  D:Rat) ( Y:List Rat) (M:List (List Rat)) (is:List Bool) (hg:NyG M is Y/\SL BQ W/\Sq BQ B/\Sq BQ D):aXf W B D Y M is:=by
 obtain ⟨hy,sW,sB,sD⟩:=hg;have n1:=hy.n24;have n2:=hy.sb;unfold aXf;dsimp only;refine dP (fun h=>(iQ fun e=>h e.1).symm) fun h=>⟨⟨n1,n2⟩,dP (fun h2=>(iQ fun e=>h2 e.2.1).symm) fun h2=>?_⟩
 have g:=hy.mg h h2;obtain ⟨m1,m2,m3⟩:=ba g.right;have hl:=g.len;have h24:=g.n24;have hd:∀t,Sq 700000000 (dW (ptL M is Y t) (ptL M is Y t)):=fun t=>aVi (g.sp t) (g.sp t) (g.lp t) (by omega);have hw:Sq 700000000 (dW (wyL M is Y) (wyL M is Y)):=aVi g.sw g.sw g.lw (by omega);have hs:Sq BQ (stQ M is Y):=by unfold stQ;exact (((hd false).sub (hd true)).div (k:=64) Sq.atH (by decide)).le (by unfold BQ;omega)
 have hp:∀t,Sq BQ (dW (wyL M is Y) (ptL M is Y t)):=fun t=>(aVi g.sw (g.sp t) g.lw (by omega)).le (by unfold BQ;omega);have hr:∀i,Sq BQ (dW (wyL M is Y) (M.getD i [])):=fun i=>(aVi g.sw (g.sM i) g.lw (by omega)).le (by unfold BQ;omega);refine ⟨g,⟨⟨⟨sW,g.sw.le (by unfold BQ;omega)⟩,sB,hs⟩,sD,hw.le (by unfold BQ;omega)⟩,dP (fun h3=>(iQ fun e=>h3 ⟨e.2.2.1,e.2.2.2.1,e.2.2.2.2.1⟩).symm) fun h3=>?_⟩;obtain ⟨rfl,rfl,rfl⟩:=h3;refine ⟨sD,aH (fun h4=>(iQ fun e=>?_).symm) fun h4=>?_⟩
 ·have:=aUp.2 e.2.2.2.2.2.1;omega
 have hD:0<dW (wyL M is Y) (wyL M is Y):=aUp.1 (by omega);refine ⟨g,fun _=>⟨0,⟨rfl,rfl,rfl,rfl,rfl,rfl,rfl⟩,⟨fK _,fun j hj=>absurd hj (gU j)⟩,fun k ⟨hk,bB⟩=>aH (fun h5=>?_) fun h5=>(pK ⟨h,h2,rfl,rfl,rfl,hD,fun j hj=>bB j (by omega)⟩).symm⟩⟩;have sF:k<M.length:=by omega
 have nT:aGr M is Y k=false->∀j,j<k+1->aGr M is Y j=false:=fun h6 j hj=>by
  rcases bX j k with h7 | h7
  ·exact bB j h7
  ·rw [show j=k by omega];exact h6
 have aYr:aGr M is Y k=true->false=decide (PrC M is (wyL M is Y) (stQ M is Y) (dW (wyL M is Y) (wyL M is Y)) Y):=fun h6=>(iQ fun e=>by have:=e.2.2.2.2.2.2 k sF;rw [h6] at this;cases this).symm;refine ⟨⟨by omega,h5⟩,⟨by omega,by omega⟩,?_⟩;unfold aUS;rw [show is.getD ((k:Nat):Int).toNat false=ub is k from rfl,show M.getD ((k:Nat):Int).toNat []=M.getD k [] from rfl];have rl:(wyL M is Y).length=(M.getD k []).length:=by rw [aVh];exact (m3 k sF).symm
 have dr:lM (wyL M is Y) (M.getD k []):=aSg g.sw (g.sM k) g.lw (by omega);have pl:∀t,(wyL M is Y).length=(ptL M is Y t).length:=fun t=>by rw [aVh,aQP]
 have dp:∀t,lM (wyL M is Y) (ptL M is Y t):=fun t=>aSg g.sw (g.sp t) g.lw (by omega)
 cases e:ub is k with
 | true=>refine ⟨⟨rl,dr⟩,⟨pl true,dp true⟩,⟨hr k,hp true⟩,aH (fun h6=>aYr (by unfold aGr;rw [aV e];exact pK (aUR.1 h6))) fun h6=>⟨⟨by omega,by omega⟩,?_⟩⟩;rw [show (!true)=false from rfl,sC];exact ⟨by unfold ax;omega,k+1,⟨rfl,rfl,rfl,rfl,rfl,rfl,rfl⟩,⟨sF,nT (by unfold aGr;rw [aV e];exact iQ fun h7=>h6 (aUR.2 h7))⟩,by omega⟩
 | false=>
  refine ⟨⟨by omega,by omega⟩,?_⟩;rw [show (!false)=true from rfl,iR];have en:¬ub is k=true:=by rw [e];decide
  exact ⟨⟨rl,dr⟩,⟨pl false,dp false⟩,⟨hr k,hp false⟩,aH (fun h6=>aYr (by unfold aGr;rw [aI en];exact pK (aWO.1 h6))) fun h6=>⟨by unfold ax;omega,k+1,⟨rfl,rfl,rfl,rfl,rfl,rfl,rfl⟩,⟨sF,nT (by unfold aGr;rw [aI en];exact iQ fun h7=>h6 (aWO.2 h7))⟩,by omega⟩⟩
theorem aYs:aqn (cfg []) aYo:=cf aXc bp Tryz.func11 fun a _ _ _ hc hg hf=>by change a3O a=_ at hc;unfold a3O at hc;split at hc <;> cases hc;cases aY (aYp _ _ _ _ _ _) (aYq _ _ _ _ _ _ hg);exact ⟨rfl,by kernel_rfl,_,by assumption⟩
theorem aVD {M:List (List Rat)} {is:List Bool} (h:chE M is=0):Shp M is/\M.length<=24/\∀t,∃i,i<M.length/\ub is i=t:=by
 unfold chE at h;by_cases h1:Shp M is
 ·rw [aV h1] at h;by_cases h2:24<M.length
  ·rw [aV h2] at h;exact absurd h (by decide)
  ·rw [aI h2] at h;refine ⟨h1,by omega,fun t=>?_⟩;unfold chI at h;by_cases h3:∀i,i<is.length->ub is i=ub is 0
   ·rw [aV h3] at h;exact absurd h (by decide)
   ·obtain ⟨i,hi⟩:=C0.1 h3;obtain ⟨h4,h5⟩:=Classical.not_imp.1 hi;have hl:=h1.2.2.2;by_cases h6:ub is 0=t
    ·exact ⟨0,by omega,h6⟩
    ·refine ⟨i,by omega,?_⟩
     cases h7:ub is i <;> cases h8:ub is 0 <;> cases t <;> simp_all
 ·rw [aI h1] at h;exact absurd h (by decide)
section
variable {M:List (List Rat)} {is:List Bool}
theorem NrG.stop (h:NrG M is):∀i,i<M.length->aGr M is (akv M is) i=false:=by
 have S:=h.start;obtain ⟨_,_,a3⟩:=aSe (muW M.length (al M) (vMg M is) (ub is) (cw (stP is M.length 2))+1) S.lb S.hd (tF _);have e:aZH M.length (al M) (vMg M is) (ub is) (muW M.length (al M) (vMg M is) (ub is) (cw (stP is M.length 2))+1) (stP is M.length 2)=akv M is:=S.en;rw [e] at a3;intro i hi
 cases h1:aGr M is (akv M is) i with
 | false=>rfl
 | true=>exact absurd ((aVL M is (akv M is) i).1 h1) (aRy a3 i hi)
theorem aZR (M:List (List Rat)) (is:List Bool) (b:List Rat):dW (wyL M is b) (wyL M is b)=fMg M.length (al M) (vMg M is) (cw b):=by
 unfold dW;rw [aVh];exact uv fun j hj=>by unfold wyL;rw [fW hj,a06]
theorem a14 (M:List (List Rat)) (is:List Bool) (b:List Rat):0<=dW (wyL M is b) (wyL M is b):=by rw [aZR];exact aNb _ _ _ _
theorem NrG.pr (h:NrG M is) (h0:aOu M is≠0):PrP M is (wyL M is (akv M is)) (stQ M is (akv M is)) (aOu M is) (akv M is):=⟨h.wt,rfl,rfl,rfl,by have h1:0<=aOu M is:=a14 M is (akv M is);grind,h.stop⟩
end
theorem a16 (n:Int):∃z:Int,z.natAbs<256/\hR n*12=(z:Rat):=by
 have hm:0<=n%41/\n%41<41:=⟨KT _ (by omega),Hm _ (by omega)⟩
 have key:∀d k:Int,(d:Rat)≠0->d*k=12->0<=k->k<=12->∃z:Int,z.natAbs<256/\((n%41-20:Int):Rat)/(d:Rat)*12=(z:Rat):=fun d k h0 e k0 k1=>by
  refine ⟨(n%41-20)*k,?_,?_⟩
  ·rw [y4];have h1:(n%41-20).natAbs<=20:=by omega
   have h2:k.natAbs<=12:=by omega
   have:=yh h1 h2;omega
  ·rw [show (12:Rat)=((12:Int):Rat) from rfl, <- e,Hh,Hh, <- Rat.mul_assoc,Rat.div_mul_cancel h0]
 unfold hR dd;by_cases h3:n.tdiv 41%6=3
 ·rw [aV h3];exact key 2 6 (by decide) (by decide) (by decide) (by decide)
 ·rw [aI h3];by_cases h4:n.tdiv 41%6=4
  ·rw [aV h4];exact key 3 4 (by decide) (by decide) (by decide) (by decide)
  ·rw [aI h4];by_cases h5:n.tdiv 41%6=5
   ·rw [aV h5];exact key 4 3 (by decide) (by decide) (by decide) (by decide)
   ·rw [aI h5];exact key 1 12 (by decide) (by decide) (by decide) (by decide)
theorem aZU (l:List Int) (i:Nat):∃z:Int,z.natAbs<256/\cE l i*12=(z:Rat):=by
 unfold cE;split
 ·exact a16 _
 ·exact ⟨0,by decide,by rw [x7];rfl⟩
def dnM (l:List Int) (n w:Int):List (List Rat):=aG (n%8).toNat (w%3+1).toNat fun i j=>cE l (i*(w%3+1).toNat+j)
theorem aXW (l:List Int) (n w:Int):(dnM l n w).length=(n%8).toNat:=mkM_len ..
theorem aZV (l:List Int) (n w:Int):SM 256 (dnM l n w):=fun i=>by
 by_cases hi:i<(n%8).toNat
 ·unfold dnM;rw [na hi];exact SL.mk (fun _ _=>(WT _ _).le (by omega)) (by omega)
 ·rw [mZ (by rw [aXW];omega)];exact SL.nil (by omega)
theorem a17 {l:List Int} {n w:Int} {is:List Bool} (h:chE (dnM l n w) is=0):NrG (dnM l n w) is:=by
 obtain ⟨h1,h2,h3⟩:=aVD h;have hp:0<(n%8).toNat:=by have:=(ba h1.1).1;rw [aXW] at this;exact this
 refine ⟨h1.1,h1.2.2.2,h2,?_,aZV l n w,fun i j=>?_,h3⟩
 ·unfold dnM;rw [tM hp];omega
 ·by_cases hi:i<(n%8).toNat
  ·by_cases hj:j<(w%3+1).toNat
   ·unfold dnM;rw [Ny hi hj];obtain ⟨z,z1,z2⟩:=aZU l (i*(w%3+1).toNat+j);exact ⟨z,by omega,z2⟩
   ·refine ⟨0,by decide,?_⟩;have e:el (dnM l n w) i j=0:=by
     unfold dnM el;rw [na hi,ss (by omega)]
    rw [e,x7];rfl
  ·refine ⟨0,by decide,?_⟩;have e:el (dnM l n w) i j=0:=by
    unfold el;rw [mZ (xs:=dnM l n w) (by rw [aXW];omega)];rfl
   rw [e,x7];rfl
section
variable {n w:Nat} {v:Nat->Nat->Rat} {s:Nat->Bool} {b b':Nat->Rat} {lm lm':Bool->Rat}
theorem OpW.hi (h:OpW n w v s b lm) (t:Bool):hiW n w v s b t=lm t:=by
 have e:hiW n w v s b t=apV (fun i=>lm t*(if s i=t then b i else 0)) n:=uv fun i hi=>by
  by_cases ht:s i=t
  ·rw [aV ht,aV ht];by_cases hp:0<b i
   ·rw [h.act i hi hp,ht,yz]
   ·have:b i=0:=by have:=h.nn i hi;grind
    rw [this,x7,Cm]
  ·rw [aI ht,aI ht,Cm]
 have h2:=h.sum t;unfold sdS at h2;rw [e,abC,h2,GL]
theorem OpW.ex (h:OpW n w v s b lm) (t:Bool):∃i,i<n/\s i=t/\0<b i:=yw fun hn=>by
 have h1:sdS n s t b=0:=acj fun i hi=>by
  by_cases e:s i=t
  ·rw [aV e];have h2:=h.nn i hi;have h3:¬0<b i:=fun h4=>hn ⟨i,hi,e,h4⟩;grind
  ·rw [aI e]
 rw [h.sum] at h1;grind
theorem aZ1 (e:∀j,j<w->dMg n v b j=dMg n v b' j) (i:Nat):gMg n w v b i=gMg n w v b' i:=uv fun j hj=>by rw [e j hj]
theorem OpW.a0f (h:OpW n w v s b lm) (h':OpW n w v s b' lm') (e:∀j,j<w->dMg n v b j=dMg n v b' j) (t:Bool):lm' t<=lm t:=by obtain ⟨i,hi,hs,hp⟩:=h.ex t;have h1:=h.act i hi hp;have h2:=h'.all i hi;rw [hs] at h1 h2;rw [<-aZ1 e i,h1] at h2;exact h2
theorem OpW.a0n (h:OpW n w v s b lm) (h':OpW n w v s b' lm') (t:Bool):lm t=lm' t:=by have e:=h'.uniq h;exact Rat.le_antisymm (h'.a0f h (fun j hj=>(e j hj).symm) t) (h.a0f h' e t)
theorem a6n {n':Nat} {π:Nat->Nat} (h1:∀i,i<n'->π i<n) (c f:Nat->Rat):apV (fun j=>apV (fun i=>if π i=j then c i else 0) n'*f j) n=apV (fun i=>c i*f (π i)) n':=by
 have e1:apV (fun j=>apV (fun i=>if π i=j then c i else 0) n'*f j) n=apV (fun j=>apV (fun i=>f j*(if π i=j then c i else 0)) n') n:=uv fun j _=>by rw [abC,yz]
 rw [e1,akN];refine uv fun i hi=>?_;rw [ace (h1 i hi) fun j _ ay=>by rw [aI (Ne.symm ay),Cm],aV rfl,yz]
theorem OpW.push {n':Nat} {v':Nat->Nat->Rat} {s':Nat->Bool} {c:Nat->Rat} {π:Nat->Nat} (h:OpW n' w v' s' c lm) (h1:∀i,i<n'->π i<n) (h2:∀j,j<n->∃i,i<n'/\π i=j) (hv:∀i,i<n'->∀j,v' i j=v (π i) j) (hs:∀i,i<n'->s' i=s (π i)) :
  OpW n w v s (fun j=>apV (fun i=>if π i=j then c i else 0) n') lm/\∀j,dMg n v (fun j=>apV (fun i=>if π i=j then c i else 0) n') j=dMg n' v' c j:=by
 have hd:∀j,dMg n v (fun j=>apV (fun i=>if π i=j then c i else 0) n') j=dMg n' v' c j:=fun j=>by unfold dMg;rw [a6n h1 c fun i=>v i j];exact uv fun i hi=>by rw [hv i hi]
 have hg:∀i,i<n'->gMg n w v (fun j=>apV (fun i=>if π i=j then c i else 0) n') (π i)=gMg n' w v' c i:=fun i hi=>uv fun j _=>by rw [hd,hv i hi]
 refine ⟨⟨fun j _=>ap8 fun i hi=>?_,fun t=>?_,fun j hj hp=>?_,fun j hj=>?_⟩,hd⟩
 ·split
  ·exact h.nn i hi
  ·exact Hw
 ·have e1:sdS n s t (fun j=>apV (fun i=>if π i=j then c i else 0) n')=apV (fun j=>apV (fun i=>if π i=j then c i else 0) n'*(if s j=t then 1 else 0)) n:=uv fun j _=>by
   by_cases e:s j=t
   ·rw [aV e,aV e,GL]
   ·rw [aI e,aI e,Cm]
  rw [e1,a6n h1 c fun j=>if s j=t then 1 else 0]
  refine KY (uv fun i hi=>?_) (h.sum t)
  show c i*(if s (π i)=t then 1 else 0)=if s' i=t then c i else 0
  ·rw [hs i hi]
   by_cases e:s (π i)=t
   ·rw [aV e,aV e,GL]
   ·rw [aI e,aI e,Cm]
 ·have hex:∃i,i<n'/\π i=j/\0<c i:=yw fun hn=>by
   have h3:apV (fun i=>if π i=j then c i else 0) n'=0:=acj fun i hi=>by
    by_cases e:π i=j
    ·rw [aV e];have h4:=h.nn i hi;have h5:¬0<c i:=fun h6=>hn ⟨i,hi,e,h6⟩;grind
    ·rw [aI e]
   rw [h3] at hp;exact absurd hp (by grind)
  obtain ⟨i,hi,e,hp'⟩:=hex
  rw [<-e,hg i hi,h.act i hi hp',hs i hi]
 ·obtain ⟨i,hi,e⟩:=h2 j hj
  rw [<-e,hg i hi, <- hs i hi]
  exact h.all i hi
end
section
variable {M:List (List Rat)} {is:List Bool} {b b':List Rat} {lm lm':Bool->Rat}
theorem aWT (h:OpW M.length (al M) (vMg M is) (ub is) (cw b) lm):stQ M is b=(lm false-lm true)/((2:Int):Rat):=by
 have h1:=aXh M is b true;have h2:=aXh M is b false;rw [aV rfl,h.hi] at h1;rw [aI (by decide),h.hi] at h2;have e:dW (ptL M is b false) (ptL M is b false)=dW (ptL M is b true) (ptL M is b true) + -(dW (wyL M is b) (ptL M is b true)+dW (wyL M is b) (ptL M is b false)):=by
  unfold dW;rw [aQP,aQP,aVh, <- acw, <- aTD, <- acw];exact uv fun j hj=>by rw [aUo true hj,aUo false hj];unfold wyL;rw [fW hj];grind
 unfold stQ;rw [e,h1,h2];congr 1;grind
end
def sdI (s:Int) (i:Nat):Bool:=decide (aZc .i64 (aZd .i64 s (IntKind.u64.wrap (((i:Nat):Int).tmod 60))) 1=1)
def dnN (n odd:Int):Nat:=(n%8).toNat+if odd%12=11 then 1 else 0
def dnS (s n odd:Int):List Bool:=aA (dnN n odd) (sdI s)
noncomputable def a0l:List az:=Cy::a4V::[]
theorem aZX:bd a0l:=⟨nJ,asq,trivial⟩
def a3S:List AV->Option (Option Prop×AV×List Ob)
 | [.k (.list (.int .i64)) l,.k (.int .i64) s,.k (.int .i64) n,.k (.int .i64) w,.k (.int .i64) odd]=>some (some ((∀i,ax (l.getD i 0))/\ax s/\ax n/\ax w/\ax odd),T2 (.k (.list (.list .rq)) (dnM l n w)) (.k (.list .bool) (dnS s n odd)),[])
 | _=>none
def aYK:az:=⟨5,false,a3S⟩
def aY8 (l:List Int) (s n w odd:Int):bk:=⟨nU,fun key_=>match key_ with
 | 7=>some (⟨Nat,fun i=>[(1,.k (.int .i64) s),(2,.k (.int .i64) ((dnN n odd:Nat):Int)),(12,.k (.list (.list .rq)) (dnM l n w)),(13,.own 13 0 1),(14,.k (.int .i64) ((i:Nat):Int))],
 fun i=>[(13,.arr 4 .bool (aA i (sdI s)))],
 fun _ i=>i<=dnN n odd,fun i=>dnN n odd-i⟩) | _=>none,nR,nU⟩
def aPS (l:List Int) (s n w odd:Int) (x:Nat):Prop:=bif decide ((↑x:Int)<(↑(dnN n odd):Int)) then (60:Int)≠(0:Int)/\(0:Int)<=IntKind.u64.wrap ((↑x:Int).tmod (60:Int))/\(aA x (sdI s)).length+[decide
 (aZc IntKind.i64 (aZd IntKind.i64 s (IntKind.u64.wrap ((↑x:Int).tmod (60:Int)))) (1:Int)=(1:Int))].length<=aB/\ax ((↑x:Int)+(1:Int))/\∃(x' :
 Nat),((s=s/\(↑(dnN n odd):Int)=(↑(dnN n odd):Int)/\dnM l n w=dnM l n w/\(↑x:Int)+(1:Int)=(↑x':Int))/\(aA x (sdI s)).append [decide (aZc
 IntKind.i64 (aZd IntKind.i64 s (IntKind.u64.wrap ((↑x:Int).tmod (60:Int)))) (1:Int)=(1:Int))]=aA x' (sdI s))/\x'<=dnN n odd/\dnN n odd-x'<dnN n odd -
 x else dnM l n w=dnM l n w/\aA x (sdI s)=dnS s n odd
def aXr (l:List Int) (s n w odd:Int):Prop:=
 let t1:=aG (n%(8:Int)).toNat (w%(3:Int)+(1:Int)).toNat fun (i j:Nat)=>cE l (i*(w%(3:Int)+(1:Int)).toNat+j);
 (ax n/\(0:Int)<(8:Int)/\(8:Int)<=(9223372036854775807:Int))/\(ax w/\(0:Int)<(3:Int)/\(3:Int)<=(9223372036854775807:Int))/\ax (w%(3 :
 Int)+(1:Int))/\((∀(i:Nat),ax (l.getD i (0:Int)))/\((0:Int)<=n%(8:Int)/\n%(8:Int)<=(1000000:Int))/\(0:Int)<=w%(3:Int)+(1:Int)/\w
 % (3:Int)+(1:Int)<=(1000000:Int))/\(ax odd/\(0:Int)<(12:Int)/\(12:Int)<=(9223372036854775807:Int))/\bif decide (odd%(12:Int)=(11:Int))
 then ax (n%(8:Int)+(1:Int))/\∃(x0:Nat),((s=s/\n%(8:Int)+(1:Int)=(↑(dnN n odd):Int)/\t1=dnM l n w/\(0:Int)=(↑x0:Int))/\aA x0 (sdI
 s)=[])/\x0<=dnN n odd/\∀(x:Nat),x<=dnN n odd->aPS l s n w odd x else ∃(x0:Nat),((s=s/\n%(8:Int)=(↑(dnN n odd):Int)/\t1=dnM l n w/\(0 :
 Int)=(↑x0:Int))/\aA x0 (sdI s)=[])/\x0<=dnN n odd/\∀(x:Nat),x<=dnN n odd->aPS l s n w odd x
theorem aYL (l:List Int) (s n w odd:Int):aw a0l [] (aY8 l s n w odd) Tryz.f5 (T2 (.k (.list (.list .rq)) (dnM l n w)) (.k (.list .bool) (dnS s n odd))) [.k (.list (.int .i64)) l,.k (.int .i64) s,.k (.int .i64) n,.k (.int .i64) w,.k (.int .i64) odd]=aXr l s n w odd:=by kernel_rfl
theorem aYM (l:List Int) (s n w odd:Int) (hg:(∀i,ax (l.getD i 0))/\ax s/\ax n/\ax w/\ax odd):aXr l s n w odd:=by
 obtain ⟨hl,hs,hn,hw,ho⟩:=hg;have key:∀x,x<=dnN n odd->aPS l s n w odd x:=fun x hx=>by
  unfold aPS;have hN:dnN n odd<=9:=by unfold dnN;split <;> omega
  have e0:0<=IntKind.u64.wrap (((x:Nat):Int).tmod 60):=by rw [IntKind.wrap_u64];omega
  refine aH (fun h=>?_) fun h=>?_
  ·refine ⟨by decide,e0,by rw [mX];show x+1<=aB;unfold aB;omega,by unfold ax;omega,x+1,⟨⟨rfl,rfl,rfl,rfl⟩,(tI x (sdI s)).symm⟩,by omega,by omega⟩
  ·exact ⟨rfl,by rw [show x=dnN n odd by omega];rfl⟩
 unfold aXr;have h2:dnM l n w=aG (n%8).toNat (w%3+1).toNat fun i j=>cE l (i*(w%3+1).toNat+j):=rfl
 refine ⟨⟨hn,by omega,by omega⟩,⟨hw,by omega,by omega⟩,by unfold ax;omega,⟨hl,⟨by omega,by omega⟩,by omega,by omega⟩,⟨ho,by omega,by omega⟩,aH (fun h=>⟨by unfold ax;omega,0,⟨⟨rfl,?_,rfl,rfl⟩,rfl⟩,fK _,key⟩) fun h=>⟨0,⟨⟨rfl,?_,rfl,rfl⟩,rfl⟩,fK _,key⟩⟩
 ·unfold dnN;rw [aV h];omega
 ·unfold dnN;rw [aI h];omega
theorem aYN:aqn (cfg []) aYK:=cf aZX bp Tryz.func5 fun a _ _ _ hc hg hf=>by change a3S a=_ at hc;unfold a3S at hc;split at hc <;> cases hc;cases aY (aYL _ _ _ _ _) (aYM _ _ _ _ _ hg);exact ⟨rfl,by kernel_rfl,_,by assumption⟩
section
variable {M M2:List (List Rat)} {S S2:List Bool}
theorem aZl (hc:chE M2 S2=chE M S) (hd:chE M S=0->(aOu M2 S2=0↔aOu M S=0)):mfE M2 S2=mfE M S:=by
 unfold mfE;rw [hc];by_cases h:chE M S=0
 ·rw [aV h,aV h];by_cases h2:aOu M S=0
  ·rw [aV h2,aV ((hd h).2 h2)]
  ·rw [aI h2,aI fun h3=>h2 ((hd h).1 h3)]
 ·rw [aI h,aI h]
end
theorem a0L {M:List (List Rat)} {S:List Bool} (h0:mfE M S=0):chE M S=0:=yw fun hn=>by unfold mfE at h0;rw [aI hn] at h0;exact hn h0
theorem a2E {M:List (List Rat)} {S:List Bool} (g:NrG M S) (h0:mfE M S=0):SL BQ (mfW M S)/\Sq BQ (mfB M S)/\Sq BQ (mfD M S):=by
 obtain ⟨⟨⟨w1,w2⟩,w3,w4⟩,_⟩:=aUq h0;have mg:=g.mg;have hd:∀t,Sq 700000000 (dW (ptL M S (akv M S) t) (ptL M S (akv M S) t)):=fun t=>aVi (mg.sp t) (mg.sp t) (mg.lp t) (by omega);have hs:Sq BQ (stQ M S (akv M S)):=by unfold stQ;exact (((hd false).sub (hd true)).div (k:=64) Sq.atH (by decide)).le (by unfold BQ;omega)
 have hD:Sq BQ (aOu M S):=(aVi mg.sw mg.sw mg.lw (by omega):Sq 700000000 (aOu M S)).le (by unfold BQ;omega);have hW:SL BQ (wyL M S (akv M S)):=mg.sw.le (by unfold BQ;omega);rw [<-w1, <- w2, <- w3];exact ⟨hW,hs,hD⟩
section
variable {M M2:List (List Rat)} {S S2:List Bool} {π:Nat->Nat}
theorem NrG.ch (g:NrG M S):chE M S=0:=by
 obtain ⟨h1,_,_⟩:=ba g.right;have h24:=g.n24;have hw:=g.w3;have hl:=g.len;unfold chE;rw [aV ⟨g.right,by omega,by omega,hl⟩,aI (by omega)];refine aI fun hn=>?_;obtain ⟨i,hi,e1⟩:=g.two true;obtain ⟨j,hj,e2⟩:=g.two false;have e3:=(hn i (by omega)).trans (hn j (by omega)).symm;rw [e1,e2] at e3
 cases e3
structure PuF (M M2:List (List Rat)) (S S2:List Bool) (π:Nat->Nat):Prop where
 lt:∀i,i<M2.length->π i<M.length
 a71:∀j,j<M.length->∃i,i<M2.length/\π i=j
 row:∀i,i<M2.length->M2.getD i []=M.getD (π i) []
 sd:∀i,i<M2.length->ub S2 i=ub S (π i)
 len:S2.length=M2.length
 n24:M2.length<=24
theorem PuF.pos (h:PuF M M2 S S2 π) (g:NrG M S):0<M2.length:=by obtain ⟨h1,_,_⟩:=ba g.right;obtain ⟨i,hi,_⟩:=h.a71 0 h1;omega
theorem PuF.abY (h:PuF M M2 S S2 π) (g:NrG M S) {i:Nat} (hi:i<M2.length):(M2.getD i []).length=al M:=by rw [h.row i hi];exact (ba g.right).2.2 _ (h.lt i hi)
theorem PuF.cl (h:PuF M M2 S S2 π) (g:NrG M S):al M2=al M:=h.abY g (h.pos g)
theorem PuF.nr (h:PuF M M2 S S2 π) (g:NrG M S):NrG M2 S2:=by
 have hp:=h.pos g;have hc:=h.cl g;have ay:=(ba g.right).2.1;refine ⟨nM hp (by rw [h.abY g hp];exact ay) fun j hj=>by rw [h.abY g hj,h.abY g hp],h.len,h.n24,by rw [hc];exact g.w3,fun i=>?_,fun i j=>?_,fun t=>?_⟩
 ·by_cases hi:i<M2.length
  ·rw [h.row i hi];exact g.sM _
  ·rw [mZ (by omega)];exact SL.nil (by omega)
 ·by_cases hi:i<M2.length
  ·have e:el M2 i j=el M (π i) j:=by unfold el;rw [h.row i hi]
   rw [e];exact g.aZF _ _
  ·refine ⟨0,by decide,?_⟩;have e:el M2 i j=0:=by unfold el;rw [mZ (xs:=M2) (by omega)];rfl
   rw [e,x7];rfl
 ·obtain ⟨j,hj,e⟩:=g.two t;obtain ⟨i,hi,e2⟩:=h.a71 j hj;exact ⟨i,hi,by rw [h.sd i hi,e2];exact e⟩
theorem PuF.line (h:PuF M M2 S S2 π) (g:NrG M S):wyL M2 S2 (akv M2 S2)=wyL M S (akv M S)/\stQ M2 S2 (akv M2 S2)=stQ M S (akv M S):=by
 obtain ⟨_,_,lm,O⟩:=g.aVw;obtain ⟨_,_,lm2,O2⟩:=(h.nr g).aVw;have hc:=h.cl g;have O3:=O2;rw [hc] at O3;obtain ⟨O4,hd⟩:=O3.push (v:=vMg M S) (s:=ub S) h.lt h.a71 (fun i hi j=>by unfold vMg el;rw [h.sd i hi,h.row i hi]) fun i hi=>h.sd i hi
 constructor
 ·unfold wyL;rw [hc];refine bE fun j hj=>?_
  rw [a06,a06, <- hd j];exact O.uniq O4 j hj
 ·rw [aWT O2,aWT O,O.a0n O4,O.a0n O4]
theorem PuF.fit (h:PuF M M2 S S2 π) (g:NrG M S) (h0:mfE M S=0):mfE M2 S2=0/\mfW M2 S2=mfW M S/\mfB M2 S2=mfB M S/\mfD M2 S2=mfD M S:=by
 obtain ⟨e1,e2⟩:=h.line g;have e3:aOu M2 S2=aOu M S:=by unfold aOu;rw [e1]
 have e0:mfE M2 S2=0:=(aZl ((h.nr g).ch.trans g.ch.symm) fun _=>by rw [e3]).trans h0;obtain ⟨⟨⟨w1,w2⟩,w3,_⟩,_⟩:=aUq h0;obtain ⟨⟨⟨v1,v2⟩,v3,_⟩,_⟩:=aUq e0;exact ⟨e0,by rw [<-v1, <- w1,e1],by rw [<-v2, <- w2,e2],by rw [<-v3, <- w3,e3]⟩
end
def ay0 {α:Type} (l:List α) (t k:Nat) (d:α):List α:=l.drop t++l.take t++[l.getD k d]
def a5V (n t k i:Nat):Nat:=if i<n then (if i+t<n then i+t else i+t-n) else k
theorem a6P {α:Type} (l:List α) {t:Nat} (k:Nat) (d:α) (ht:t<=l.length):(ay0 l t k d).length=l.length+1:=by unfold ay0;simp only [fh,yk,jV,Ar];omega
theorem a7i {α:Type} (l:List α) {t:Nat} (k:Nat) (d:α) (ht:t<=l.length) {i:Nat} (hi:i<l.length+1):(ay0 l t k d).getD i d=l.getD (a5V l.length t k i) d:=by
 unfold ay0 a5V;rw [au,au,List.getElem?_append,List.getElem?_append];simp only [fh,yk,jV];by_cases h1:i<l.length
 ·rw [aV h1,aV (by omega)];by_cases h2:i+t<l.length
  ·rw [aV h2,aV (by omega),Av,Aj,au]
  ·rw [aI h2,aI (by omega),tP (by omega)];rw [show i-(l.length-t)=i+t-l.length by omega,au]
 ·rw [aI h1,aI (by omega),show i-(l.length-t+min t l.length)=0 by omega];rw [<-au];rfl
theorem a8r {M:List (List Rat)} {S:List Bool} {t k:Nat} (ht:t<M.length) (hk:k<M.length) (hS:S.length=M.length) (h24:M.length<24):PuF M (ay0 M t k []) S (ay0 S t k false) (a5V M.length t k):=by
 have l1:=a6P M k [] (Af ht);have l2:=a6P S k false (show t<=S.length by omega);refine ⟨fun i hi=>?_,fun j hj=>?_,fun i hi=>a7i M k [] (Af ht) (by omega),fun i hi=>?_,by omega,by omega⟩
 ·unfold a5V;split
  ·split <;> omega
  ·exact hk
 ·by_cases h:t<=j
  ·refine ⟨j-t,by omega,?_⟩;unfold a5V;rw [aV (by omega),aV (by omega)];omega
  ·refine ⟨j+M.length-t,by omega,?_⟩;unfold a5V;rw [aV (by omega),aI (by omega)];omega
 ·have:=a7i S k false (show t<=S.length by omega) (i:=i) (by omega);rw [hS] at this;exact this
def a7R (pm:List Nat) (i:Nat):Nat:=pm.findIdx fun x=>Nat.beq x i
section
variable {pm:List Nat} {ops:Array Oper}
structure bd7 (pm:List Nat) (ops:Array Oper):Prop where
 len:pm.length=ops.size
 to:∀i,i<ops.size->a7R pm i<ops.size/\pm.getD (a7R pm i) 0=i
 back:∀p,p<ops.size->pm.getD p 0<ops.size/\a7R pm (pm.getD p 0)=p
 aft:∀o∈ops,∀e∈o.after,e.on<ops.size
 gd:∀o∈ops,∀j b,o.guard=some (j,b)->j<ops.size
variable {P:Program} {Q:Exit->Act->World->Prop}
end
def a6C (ops:Array Oper) (l:List Nat) (i:Nat):Bool:=a1n i (vi ops.toList l)&&match ops[i]? with
 | none=>false
 | some oi=>(List.range ops.size).all fun j=>j == i||(a1n j l||match ops[j]? with
   | some oj=>oj.after.any (fun e=>Region.binds .any e&&e.on == i)||oi.apart ops oj
   | none=>true)
def a6D (C:bO) (m:Sl) (H:Hp) (o:Oper):QR:=match o.op with
 | .slice t x lo hi none=>(match a4b m lo,a4b m hi,aYO C.P t,ev m x with
  | some l,some h,some s,.k (.list K) xs=>bif Nat.beq s K.sz then qg (rz xs.length l h none) (.k (.list K) (aM9 xs l h)) else none
  | _,_,_,_=>none)
 | _=>bif a1N o.op then a3g C m H o else none
def aXx (C:bO) (ops:Array Oper) (K:St->Prop):Nat->List Nat->St->Prop
 | 0,l,s=>match vi ops.toList l with
  | []=>K s
  | _=>False
 | f+1,l,s=>match vi ops.toList l with
  | []=>K s
  | r=>match r.find? fun i=>a6C ops l i&&(match ops[i]? with
    | some o=>o.guard.isNone&&(a6D C s.m s.H o).isSome
    | none=>false) with
   | some i=>(match ops[i]? with
    | some o=>(match a6D C s.m s.H o with
     | some (_,g,v)=>zn g (aXx C ops K f (i::l) ⟨azw s.m o.dst v,s.H⟩)
     | none=>False)
    | none=>False)
   | none=>TO r fun i=>match ops[i]? with
    | some o=>stepG C ops.toList o (aXx C ops K f (i::l)) s
    | none=>False
def a4S (C:bO) (n:Nat) (R:Option aaw) (ops:Array Oper) (K:St->Prop) (s:St):Prop:=
 bif C.P.follows .mixedOrders&&(iJ C.lo n ops.toList&&Region.noSelect ops) then (match R with
  | some R=>∃x,aXx C ops (fun s'=>Iy s' ⟨R.sl x,R.hp x⟩) ops.size [] s/\K ⟨R.sl x,R.hp x⟩
  | none=>aXx C ops K ops.size [] s) else False
section
variable {C:bO} {F B0:Nat->Prop} {w0:World} {n:Nat} {ops:Array Oper}
theorem a6E {listed:Array Bool} {l:List Nat} {i:Nat} (hI:Ei ops listed l) (h:a6C ops l i=true):(Region.ready .any ops listed).contains i=true/\Region.free .any ops listed i=true:=by
 unfold a6C at h;rw [bF] at h;obtain ⟨h1,h2⟩:=h;refine ⟨by rw [zu hI];simpa using zt.1 h1,?_⟩;unfold Region.free
 cases ho:ops[i]? with
 | none=>rw [ho] at h2;cases h2
 | some oi=>
  rw [ho] at h2;simp only [uZ,xD,yf] at h2 ⊢;intro j hj;rcases h2 j hj with h | h | h
  ·exact .inl (.inl h)
  ·exact .inl (.inr (by rw [hI.2.2 j hj];exact h))
  ·exact .inr h
theorem a7x {w:World} {β:Bm} {H:Hp} {m:Sl} {a:Act} {o:Oper} {bm g:Option Prop} {v:AV} (M:Mem C.Tb F B0 w0 β H w) (hx:∀x∈o.op.operands,aq (Ok F w0 β H) w β (ev m x) (a.eval x)) (h:a6D C m H o=some (bm,g,v)) (hg:bt g) :
  ∃u,(∀w',(execOp a.eval o).run C.P w' = .ok (.value u) w')/\aq (Ok F w0 β H) w β v u:=by
 unfold a6D at h
 split at h
 ·rename_i t x lo hi ho
  split at h
  ·rename_i l h' s K xs hl hh hs he
   cases hb:Nat.beq s K.sz with
   | false=>rw [hb] at h;cases h
   | true=>
    rw [hb,iR] at h
    rw [pN] at hb
    obtain ⟨rfl,rfl,rfl⟩:=aEE h
    have wk:=hx x (by rw [ho];simp [Op.operands])
    rw [he] at wk
    have ol:qb l (lo.map a.eval):=mz hl fun y hy=>hx y (by rw [ho,hy];simp [Op.operands])
    have oh:qb h' (hi.map a.eval):=mz hh fun y hy=>hx y (by rw [ho,hy];simp [Op.operands])
    have om:qb none ((none:Option Operand).map a.eval):=rfl
    obtain ⟨c,⟨A,c',rfl,hc,h4,h5⟩,hv⟩:=wk
    have hg:rz xs.length l h' none:=hg
    obtain ⟨g1,g2,g3,g4⟩:=Tp hg hc
    have uG:bj (Ok F w0 β H) w (.list K) xs [.slice A xs.length c']:=⟨A,c',rfl,hc,h4,h5⟩
    have hk:=Ov uG g1 g2 g3
    rw [<-DK hg, <- hb] at hk
    refine ⟨_,fun w'=>?_,_,hk,rfl⟩
    unfold execOp
    have hv:a.eval x = .slice A xs.length c':=hv
    simp only [ho,hv,vW hs ol oh om hg hc,Sem.run_bind,Result.andThen_ok,Sem.run_pure]
    rfl
  ·cases h
 ·cases hp:a1N o.op with
  | false=>rw [hp] at h;cases h
  | true=>
   rw [hp,iR] at h
   exact (Ik (o:=o) (ρ:=a.eval) M hx hp h).2 hg
theorem a4a (hT:dI C.Tb) (hC:nW C) (hB:BF B0 F) {K:St->Prop} {Q:Exit->Act->World->Prop} (hP:∀c a w,¬Q (.panic c) a w) (hd:iJ C.lo n ops.toList=true) (hs:Region.noSelect ops=true) (hQ:∀β s a w,K s->bo C F B0 w0 n β s a w->Kept C a->Q .normal a w) :
  ∀{f:Nat} {l:List Nat} {listed:Array Bool} {β:Bm} {s:St} {a:Act} {w:World},Ei ops listed l->aXx C ops K f l s->bo C F B0 w0 n β s a w->Kept C a->wpAny C.P .any ops Q f listed a w
 | 0,l,listed, β,s,a,w,hI,h,S,hk=>by
  unfold aXx at h;unfold wpAny;rw [zu hI];split at h
  ·rename_i e;exact ⟨e,hQ _ _ _ _ h S hk⟩
  ·exact h.elim
 | f+1,l,listed, β,s,a,w,hI,h,S,hk=>by
  unfold aXx at h;split at h
  ·rename_i e;unfold wpAny;rw [zu hI,e];exact ⟨fun _=>hQ _ _ _ _ h S hk,fun i hi=>by cases hi⟩
  ·rename_i ay;split at h
   ·rename_i i hfd;have hx:=List.find?_some hfd;rw [bF] at hx;obtain ⟨ht,hx⟩:=hx;split at h
    ·rename_i o ho;rw [ho] at hx;simp only [bF] at hx;have hi:i<ops.size:=(kJ.1 ho).1;obtain ⟨hr,hf⟩:=a6E hI ht;split at h
     ·rename_i bm g v hq;have h:bt g/\aXx C ops K f (i::l) ⟨azw s.m o.dst v,s.H⟩:=by cases g with | none=>exact ⟨trivial,h⟩ | some G=>exact h
      obtain ⟨u,h1,h2⟩:=a7x (a:=a) S.mem (fun x _=>ew S.slot x) hq h.1;have Ix:=gX hd o (by simpa using Array.mem_of_getElem? ho);have hgn:o.guard=none:=by simpa using hx.1
      refine wpAny_take ho hs hf hr (fun c a w h=>(hP _ _ _ h).elim) (.inl ⟨by simp [Region.wanted,hgn],h1⟩) ?_;exact a4a hT hC hB hP hd hs hQ (hI.put hi) h.2 ⟨S.mem,by rw [dF];exact S.size,by rw [cP];exact S.defs,dE S.slot S.size (fun d hd=>(Ix d hd).1) h2⟩ (hk.put fun d hd=>(Ix d hd).2)
     ·exact h.elim
    ·exact h.elim
   ·unfold wpAny;rw [zu hI];refine ⟨fun e=>absurd e (by simpa using ay),fun i hi=>?_⟩;have hi':=(Cq.1 hi).1;rw [tT,xD] at hi';have h:=Ej h hi;have ho:ops[i]? = some ops[i]:=tQ hi';rw [ho] at h;exact OR hT hC hB ho (gX hd _ (by simp)) (fun β s a w h S hk=>a4a hT hC hB hP hd hs hQ (hI.put hi') h S hk) h S hk
theorem a7y (hT:dI C.Tb) (hC:nW C) (hB:BF B0 F) {K:St->Prop} {Q:Exit->Act->World->Prop} {R:Option aaw} {id:Nat} {β:Bm} {s:St} {a:Act} {w:World} (hP:∀c a w,¬Q (.panic c) a w) (hQ:∀β s a w,K s->bo C F B0 w0 n β s a w->Kept C a->Q .normal a w)
  (h:a4S C n R ops K s) (S:bo C F B0 w0 n β s a w) (hk:Kept C a):(Code.region id ops true).wp C.P Q a w:=by
 unfold a4S at h
 cases hb:(C.P.follows .mixedOrders&&(iJ C.lo n ops.toList&&Region.noSelect ops)) with
 | false=>rw [hb] at h;exact h.elim
 | true=>
  rw [hb,iR] at h
  simp only [bF] at hb
  obtain ⟨hm,hd,hs⟩:=hb
  have e:Ext w { w with drawn:=w.drawn+1 }:=(Ext.refl w).drew
  have hI:Ei ops (Array.replicate ops.size false) []:=⟨by simp,fun _ h=>by simp at h,fun i hi=>by simp [a1n,hi]⟩
  have S':bo C F B0 w0 n β s a { w with drawn:=w.drawn+1 }:=⟨S.mem.ext hT e,S.size,S.defs,fun t=>(S.slot t).ak (Kp.aO e) (fun _ _ h=>h) fun _ _=>rfl⟩
  refine wp_region_any hm ?_
  cases R with
  | none=>exact a4a hT hC hB hP hd hs hQ hI h S' hk
  | some R=>
   obtain ⟨x,h1,h2⟩:=h
   exact a4a hT hC hB hP hd hs (fun β s a w he S hk=>by obtain ⟨β',S'⟩:=S.ent hB he;exact hQ β' _ a w h2 S' hk) hI h1 S' hk
end
def a7z (R:Option aaw):a7a where
 step C n dr ops K s:=bif dr then a4S C n R ops K s else False
 ok {C n id ops dr K s F B0 w0 β a w Q} hT hC hB hP hQ h S hk:=by
  cases dr with
  | false=>exact h.elim
  | true=>exact a7y hT hC hB hP hQ h S hk
def nlR:List (List Rat):=[]
def nlB:List Bool:=[]
noncomputable def a8s:List az:=aYK::Ap::aT3::Cy::aYi::aYo::aTG::[]
theorem a74:bd a8s:=⟨aYN,CL,aRD,nJ,aYl,aYs,aTK,trivial⟩
noncomputable def a6Y:List AV->Option (Option Prop×AV×List Ob)
 | [.k (.list (.int .i64)) l,.k (.int .i64) s,.k (.int .i64) n,.k (.int .i64) w,.k (.int .i64) t,.k (.int .i64) tw]=>some (some ((∀i,ax (l.getD i 0))/\ax s/\ax n/\ax w/\ax t/\ax tw),.k .bool true,[])
 | _=>none
noncomputable def bam:az:=⟨3,false,a6Y⟩
noncomputable def a77 (l:List Int) (s n w t tw:Int):bk:= @bk.mk (fun key_=>match key_ with | 7=>14 | 8=>14 | 10=>15 | _=>0) (fun key_=>match key_ with | _=>none) (fun key_=>match key_ with | _=>none) (fun key_=>match key_ with | _=>0) ⟨fun key_=>match key_ with | 7=>some (a7z (some ⟨Unit,fun _=>[(13,.k (.list (.list .rq)) (dnM l n w)),(14,.k (.list .bool) (dnS s n 0)),(15,.pt 15 0 12 0 0),(17,.k (.int .i64) (t%((dnM l n w).length:Int))),(18,.k (.int .i64) (tw%((dnM l n w).length:Int))),(19,.own 49 0 1)],fun _=>[(15,.box 39 (.agg (.cons (.agg (.cons (.k (.list .q) (mfW (dnM l n w) (dnS s n 0))) (.cons (.k .q (mfB (dnM l n w) (dnS s n 0))) .nil))) (.cons (.k .q (mfD (dnM l n w) (dnS s n 0))) (.cons (.k (.list .q) (mfY (dnM l n w) (dnS s n 0))) .nil))))),(49,.arr 47 (.list .rq) (ay0 (dnM l n w) (t%((dnM l n w).length:Int)).toNat (tw%((dnM l n w).length:Int)).toNat []))]⟩)) | 8=>some (a7z (some ⟨Unit,fun _=>[(13,.k (.list (.list .rq)) (dnM l n w)),(14,.k (.list .bool) (dnS s n 0)),(15,.pt 15 0 12 0 0),(19,.own 49 0 1),(20,.own 64 0 1)],fun _=>[(15,.box 39 (.agg (.cons (.agg (.cons (.k (.list .q) (mfW (dnM l n w) (dnS s n 0))) (.cons (.k .q (mfB (dnM l n w) (dnS s n 0))) .nil))) (.cons (.k .q (mfD (dnM l n w) (dnS s n 0))) (.cons (.k (.list .q) (mfY (dnM l n w) (dnS s n 0))) .nil))))),(49,.arr 47 (.list .rq) (ay0 (dnM l n w) (t%((dnM l n w).length:Int)).toNat (tw%((dnM l n w).length:Int)).toNat [])),(64,.arr 4 .bool (ay0 (dnS s n 0) (t%((dnM l n w).length:Int)).toNat (tw%((dnM l n w).length:Int)).toNat false))]⟩)) | _=>none⟩
def aKk (l:List Int) (s n w t tw:Int):Prop:=(mfW (dnM l n w) (dnS s n (0:Int))=mfW (dnM l n w) (dnS s n (0:Int))/\mfB (dnM l n w) (dnS s n (0:Int))=mfB (dnM l n w) (dnS s n (0:Int)))/\mfD (dnM l n w)
 (dnS s n (0:Int))=mfD (dnM l n w) (dnS s n (0:Int))/\mfY (dnM l n w) (dnS s n (0:Int))=mfY (dnM l n w) (dnS s n (0:Int))
def a64 (l:List Int) (s n w t tw:Int):Prop:=
 let t1:=(↑(dnM l n w).length:Int);
 let t2:=dnS s n (0:Int);
 let t3:=some (t%t1);
 let t4:=aM9 t2 t3 none;
 let t5:=[].append t4;
 let t6:=aM9 t2 none t3;
 let t7:=t5.append t6;
 let t8:=aM9 (dnM l n w) t3 none;
 let t9:=aM9 (dnM l n w) none t3;
 let t10:=[].append t8;
 let t11:=t10.append t9;
 let t12:=ay0 (dnM l n w) (t%t1).toNat (tw%t1).toNat [];
 let t13:=ay0 t2 (t%t1).toNat (tw%t1).toNat false;
 ((∀(i:Nat),ax (l.getD i (0:Int)))/\ax s/\ax n/\ax w/\ax (0:Int))/\SM BQ (dnM l n w)/\(chE (dnM l n w) t2=(0:Int)->NrG (dnM l n w) t2)/\bif
 !decide (mfE (dnM l n w) t2=(0:Int)) then true=true else (dnM l n w).length<=aB->(ax t/\(0:Int)<t1/\t1<=(9223372036854775807:Int))/\((dnM l n
 w).length<=aB->(ax tw/\(0:Int)<t1/\t1<=(9223372036854775807:Int))/\∃(x:Unit),(rz (dnM l n w).length t3 none none/\rz (dnM l n w).length none t3
 none/\((0:Int)<=tw%t1/\tw%t1<t1)/\((nlR.length+t8.length<=aB/\(t10.length+t9.length<=aB/\t11.length+[(dnM l n w).getD (tw%t1).toNat []].length <=
 aB/\(dnM l n w=dnM l n w/\dnS s n (0:Int)=dnS s n (0:Int)/\t%t1=t%t1/\tw%t1=tw%t1)/\aKk l s n w t tw/\t11.append [(dnM l n w).getD (tw %
 t1).toNat []]=ay0 (dnM l n w) (t%t1).toNat (tw%t1).toNat [])/\(t10.length+t9.length<=aB/\t11.length+[(dnM l n w).getD (tw%t1).toNat []].length<=aB /\
 (dnM l n w=dnM l n w/\dnS s n (0:Int)=dnS s n (0:Int)/\t%t1=t%t1/\tw%t1=tw%t1)/\aKk l s n w t tw/\t11.append [(dnM l n w).getD (tw%t1).toNat
 []]=ay0 (dnM l n w) (t%t1).toNat (tw%t1).toNat [])/\t10.length+t9.length<=aB/\t11.length+[(dnM l n w).getD (tw%t1).toNat []].length<=aB/\(dnM l n w =
 dnM l n w/\dnS s n (0:Int)=dnS s n (0:Int)/\t%t1=t%t1/\tw%t1=tw%t1)/\aKk l s n w t tw/\t11.append [(dnM l n w).getD (tw%t1).toNat []]=ay0
 (dnM l n w) (t%t1).toNat (tw%t1).toNat [])/\(nlR.length+t8.length<=aB/\(t10.length+t9.length<=aB/\t11.length+[(dnM l n w).getD (tw%t1).toNat []].length
 <= aB/\(dnM l n w=dnM l n w/\dnS s n (0:Int)=dnS s n (0:Int)/\t%t1=t%t1/\tw%t1=tw%t1)/\aKk l s n w t tw/\t11.append [(dnM l n w).getD (tw %
 t1).toNat []]=ay0 (dnM l n w) (t%t1).toNat (tw%t1).toNat [])/\t10.length+t9.length<=aB/\t11.length+[(dnM l n w).getD (tw%t1).toNat []].length<=aB /\
 (dnM l n w=dnM l n w/\dnS s n (0:Int)=dnS s n (0:Int)/\t%t1=t%t1/\tw%t1=tw%t1)/\aKk l s n w t tw/\t11.append [(dnM l n w).getD (tw%t1).toNat
 []]=ay0 (dnM l n w) (t%t1).toNat (tw%t1).toNat [])/\nlR.length+t8.length<=aB/\t10.length+t9.length<=aB/\t11.length+[(dnM l n w).getD (tw%t1).toNat
 []].length<=aB/\(dnM l n w=dnM l n w/\dnS s n (0:Int)=dnS s n (0:Int)/\t%t1=t%t1/\tw%t1=tw%t1)/\aKk l s n w t tw/\t11.append [(dnM l n
 w).getD (tw%t1).toNat []]=ay0 (dnM l n w) (t%t1).toNat (tw%t1).toNat [])/\((nlR.length+t8.length<=aB/\(t10.length+t9.length<=aB/\t11.length+[(dnM l
 n w).getD (tw%t1).toNat []].length<=aB/\(dnM l n w=dnM l n w/\dnS s n (0:Int)=dnS s n (0:Int)/\t%t1=t%t1/\tw%t1=tw%t1)/\aKk l s n w t tw /\
 t11.append [(dnM l n w).getD (tw%t1).toNat []]=ay0 (dnM l n w) (t%t1).toNat (tw%t1).toNat [])/\t10.length+t9.length<=aB/\t11.length+[(dnM l n w).getD (tw
 % t1).toNat []].length<=aB/\(dnM l n w=dnM l n w/\dnS s n (0:Int)=dnS s n (0:Int)/\t%t1=t%t1/\tw%t1=tw%t1)/\aKk l s n w t tw/\t11.append
 [(dnM l n w).getD (tw%t1).toNat []]=ay0 (dnM l n w) (t%t1).toNat (tw%t1).toNat [])/\nlR.length+t8.length<=aB/\t10.length+t9.length<=aB/\t11.length +
 [(dnM l n w).getD (tw%t1).toNat []].length<=aB/\(dnM l n w=dnM l n w/\dnS s n (0:Int)=dnS s n (0:Int)/\t%t1=t%t1/\tw%t1=tw%t1)/\aKk l s n w
 t tw/\t11.append [(dnM l n w).getD (tw%t1).toNat []]=ay0 (dnM l n w) (t%t1).toNat (tw%t1).toNat [])/\nlR.length+t8.length<=aB/\t10.length+t9.length <=
 aB/\t11.length+[(dnM l n w).getD (tw%t1).toNat []].length<=aB/\(dnM l n w=dnM l n w/\dnS s n (0:Int)=dnS s n (0:Int)/\t%t1=t%t1/\tw%t1=tw %
 t1)/\aKk l s n w t tw/\t11.append [(dnM l n w).getD (tw%t1).toNat []]=ay0 (dnM l n w) (t%t1).toNat (tw%t1).toNat [])/\∃(x:Unit),(rz t2.length t3 none
 none/\rz t2.length none t3 none/\((0:Int)<=tw%t1/\tw%t1<(↑t2.length:Int))/\((nlB.length+t4.length<=aB/\(t5.length+t6.length<=aB/\t7.length +
 [t2.getD (tw%t1).toNat false].length<=aB/\(dnM l n w=dnM l n w/\dnS s n (0:Int)=dnS s n (0:Int))/\aKk l s n w t tw/\ay0 (dnM l n w) (t%t1).toNat (tw
 % t1).toNat []=ay0 (dnM l n w) (t%t1).toNat (tw%t1).toNat []/\t7.append [t2.getD (tw%t1).toNat false]=ay0 t2 (t%t1).toNat (tw%t1).toNat false) /\
 (t5.length+t6.length<=aB/\t7.length+[t2.getD (tw%t1).toNat false].length<=aB/\(dnM l n w=dnM l n w/\dnS s n (0:Int)=dnS s n (0:Int))/\aKk l s n w
 t tw/\ay0 (dnM l n w) (t%t1).toNat (tw%t1).toNat []=ay0 (dnM l n w) (t%t1).toNat (tw%t1).toNat []/\t7.append [t2.getD (tw%t1).toNat false]=ay0 t2 (t %
 t1).toNat (tw%t1).toNat false)/\t5.length+t6.length<=aB/\t7.length+[t2.getD (tw%t1).toNat false].length<=aB/\(dnM l n w=dnM l n w/\dnS s n (0:Int) =
 dnS s n (0:Int))/\aKk l s n w t tw/\ay0 (dnM l n w) (t%t1).toNat (tw%t1).toNat []=ay0 (dnM l n w) (t%t1).toNat (tw%t1).toNat []/\t7.append [t2.getD (tw
 % t1).toNat false]=ay0 t2 (t%t1).toNat (tw%t1).toNat false)/\(nlB.length+t4.length<=aB/\(t5.length+t6.length<=aB/\t7.length+[t2.getD (tw%t1).toNat
 false].length<=aB/\(dnM l n w=dnM l n w/\dnS s n (0:Int)=dnS s n (0:Int))/\aKk l s n w t tw/\ay0 (dnM l n w) (t%t1).toNat (tw%t1).toNat []=ay0
 (dnM l n w) (t%t1).toNat (tw%t1).toNat []/\t7.append [t2.getD (tw%t1).toNat false]=ay0 t2 (t%t1).toNat (tw%t1).toNat false)/\t5.length+t6.length<=aB /\
 t7.length+[t2.getD (tw%t1).toNat false].length<=aB/\(dnM l n w=dnM l n w/\dnS s n (0:Int)=dnS s n (0:Int))/\aKk l s n w t tw/\ay0 (dnM l n w) (t %
 t1).toNat (tw%t1).toNat []=ay0 (dnM l n w) (t%t1).toNat (tw%t1).toNat []/\t7.append [t2.getD (tw%t1).toNat false]=ay0 t2 (t%t1).toNat (tw%t1).toNat
 false)/\nlB.length+t4.length<=aB/\t5.length+t6.length<=aB/\t7.length+[t2.getD (tw%t1).toNat false].length<=aB/\(dnM l n w=dnM l n w/\dnS s n (0 :
 Int)=dnS s n (0:Int))/\aKk l s n w t tw/\ay0 (dnM l n w) (t%t1).toNat (tw%t1).toNat []=ay0 (dnM l n w) (t%t1).toNat (tw%t1).toNat []/\t7.append
 [t2.getD (tw%t1).toNat false]=ay0 t2 (t%t1).toNat (tw%t1).toNat false)/\((nlB.length+t4.length<=aB/\(t5.length+t6.length<=aB/\t7.length+[t2.getD (tw
 % t1).toNat false].length<=aB/\(dnM l n w=dnM l n w/\dnS s n (0:Int)=dnS s n (0:Int))/\aKk l s n w t tw/\ay0 (dnM l n w) (t%t1).toNat (tw%t1).toNat
 []=ay0 (dnM l n w) (t%t1).toNat (tw%t1).toNat []/\t7.append [t2.getD (tw%t1).toNat false]=ay0 t2 (t%t1).toNat (tw%t1).toNat false)/\t5.length +
 t6.length<=aB/\t7.length+[t2.getD (tw%t1).toNat false].length<=aB/\(dnM l n w=dnM l n w/\dnS s n (0:Int)=dnS s n (0:Int))/\aKk l s n w t tw/\ay0
 (dnM l n w) (t%t1).toNat (tw%t1).toNat []=ay0 (dnM l n w) (t%t1).toNat (tw%t1).toNat []/\t7.append [t2.getD (tw%t1).toNat false]=ay0 t2 (t%t1).toNat
 (tw%t1).toNat false)/\nlB.length+t4.length<=aB/\t5.length+t6.length<=aB/\t7.length+[t2.getD (tw%t1).toNat false].length<=aB/\(dnM l n w=dnM l n w /\
 dnS s n (0:Int)=dnS s n (0:Int))/\aKk l s n w t tw/\ay0 (dnM l n w) (t%t1).toNat (tw%t1).toNat []=ay0 (dnM l n w) (t%t1).toNat (tw%t1).toNat [] /\
 t7.append [t2.getD (tw%t1).toNat false]=ay0 t2 (t%t1).toNat (tw%t1).toNat false)/\nlB.length+t4.length<=aB/\t5.length+t6.length<=aB/\t7.length +
 [t2.getD (tw%t1).toNat false].length<=aB/\(dnM l n w=dnM l n w/\dnS s n (0:Int)=dnS s n (0:Int))/\aKk l s n w t tw/\ay0 (dnM l n w) (t%t1).toNat (tw
 % t1).toNat []=ay0 (dnM l n w) (t%t1).toNat (tw%t1).toNat []/\t7.append [t2.getD (tw%t1).toNat false]=ay0 t2 (t%t1).toNat (tw%t1).toNat false)/\SM BQ
 t12/\(chE t12 t13=(0:Int)->NrG t12 t13)/\bif decide (mfE t12 t13=(0:Int)) then (((SL BQ (mfW (dnM l n w) t2)/\SL BQ (mfW t12 t13))/\Sq BQ (mfB (dnM l n w)
 t2)/\Sq BQ (mfB t12 t13))/\Sq BQ (mfD (dnM l n w) t2)/\Sq BQ (mfD t12 t13))/\bif decide (SmP (mfW (dnM l n w) t2) (mfW t12 t13) (mfB (dnM l n w) t2) (mfB t12 t13)
 (mfD (dnM l n w) t2) (mfD t12 t13)) then SM BQ (dnM l n w)/\(NyG (dnM l n w) t2 (mfY (dnM l n w) t2)/\SL BQ (mfW (dnM l n w) t2)/\Sq BQ (mfB (dnM l n w) t2)/\Sq BQ
 (mfD (dnM l n w) t2))/\decide (PrC (dnM l n w) t2 (mfW (dnM l n w) t2) (mfB (dnM l n w) t2) (mfD (dnM l n w) t2) (mfY (dnM l n w) t2))=true else false=true else
 false=true)
theorem a7E (l:List Int) (s n w t tw:Int):aw a8s [] (a77 l s n w t tw) Tryz.f3 (.k .bool true) [.k (.list (.int .i64)) l,.k (.int .i64) s,.k (.int .i64) n,.k (.int .i64) w,.k (.int .i64) t,.k (.int .i64) tw]=a64 l s n w t tw:=by kernel_rfl
theorem a7F (l:List Int) (s n w t tw:Int) (hg:(∀i,ax (l.getD i 0))/\ax s/\ax n/\ax w/\ax t/\ax tw):a64 l s n w t tw:=by
 obtain ⟨hl,hs,hn,hw,ht,htw⟩:=hg;have hM':SM BQ (dnM l n w):=(aZV l n w).le (by unfold BQ;omega);have hN:chE (dnM l n w) (dnS s n 0)=0->NrG (dnM l n w) (dnS s n 0):=a17;have hlen:(dnM l n w).length<=7:=by rw [aXW];omega
 have hr:aKk l s n w t tw:=by unfold aKk;exact ⟨⟨rfl,rfl⟩,rfl,rfl⟩
 unfold a64;dsimp only;refine ⟨⟨hl,hs,hn,hw,by unfold ax;omega⟩,hM',hN,dP (fun _=>rfl) fun h0=>?_⟩;generalize dnM l n w=M at *
 generalize dnS s n 0=S at *
 have hc:=a0L h0;have g:=hN hc;have hS:S.length=M.length:=g.len;have hp:=(ba g.right).1;obtain ⟨q1,q2,q3⟩:=a2E g h0;obtain ⟨⟨⟨w1,w2⟩,w3,w4⟩,_⟩:=aUq h0;have h1:aOu M S≠0:=fun h3=>by unfold mfE at h0;rw [aV hc,aV h3] at h0;exact absurd h0 (by decide)
 have a1:0<=t%(M.length:Int)/\t%(M.length:Int)<(M.length:Int):=⟨KT _ (by omega),Hm _ (by omega)⟩
 have a2:0<=tw%(M.length:Int)/\tw%(M.length:Int)<(M.length:Int):=⟨KT _ (by omega),Hm _ (by omega)⟩
 refine fun _=>⟨⟨ht,by omega,by omega⟩,fun _=>⟨⟨htw,by omega,by omega⟩,(),?_⟩⟩
 generalize t%(M.length:Int)=ta at *
 generalize tw%(M.length:Int)=tk at *
 have pu:PuF M (ay0 M ta.toNat tk.toNat []) S (ay0 S ta.toNat tk.toNat false) (a5V M.length ta.toNat tk.toNat):=a8r (by omega) (by omega) hS (by omega);have n2:=pu.nr g;obtain ⟨e0,eW,eB,eD⟩:=pu.fit g h0;have lim:∀k:Nat,k<=100->k<=aB:=fun k hk=>by unfold aB;omega
 have g1:rz M.length (some ta) none none:=⟨a1.1,by omega⟩
 have g2:rz M.length none (some ta) none:=⟨a1.1,by omega⟩
 have g3:rz S.length (some ta) none none:=⟨a1.1,by omega⟩
 have g4:rz S.length none (some ta) none:=⟨a1.1,by omega⟩
 have b1:nlR.length+(aM9 M (some ta) none).length<=aB:=lim _ (by show 0+(M.drop ta.toNat).length<=100;rw [yk];omega);have b2:(([]:List (List Rat)).append (aM9 M (some ta) none)).length+(aM9 M none (some ta)).length<=aB:=lim _ (by show (M.drop ta.toNat).length+(M.take ta.toNat).length<=100;rw [yk,jV];omega);have b3:((([]:List (List Rat)).append (aM9 M (some ta) none)).append (aM9 M none (some ta))).length+[M.getD tk.toNat []].length<=aB:=lim _ (by show (M.drop ta.toNat++M.take ta.toNat).length+1<=100;rw [fh,yk,jV];omega);have b4:((([]:List (List Rat)).append (aM9 M (some ta) none)).append (aM9 M none (some ta))).append [M.getD tk.toNat []]=ay0 M ta.toNat tk.toNat []:=rfl;have c1:nlB.length+(aM9 S (some ta) none).length<=aB:=lim _ (by show 0+(S.drop ta.toNat).length<=100;rw [yk];omega);have c2:(([]:List Bool).append (aM9 S (some ta) none)).length+(aM9 S none (some ta)).length<=aB:=lim _ (by show (S.drop ta.toNat).length+(S.take ta.toNat).length<=100;rw [yk,jV];omega);have c3:((([]:List Bool).append (aM9 S (some ta) none)).append (aM9 S none (some ta))).length+[S.getD tk.toNat false].length<=aB:=lim _ (by show (S.drop ta.toNat++S.take ta.toNat).length+1<=100;rw [fh,yk,jV];omega);have c4:((([]:List Bool).append (aM9 S (some ta) none)).append (aM9 S none (some ta))).append [S.getD tk.toNat false]=ay0 S ta.toNat tk.toNat false:=rfl;have a3:tk<(S.length:Int):=by omega
 obtain ⟨a4,a5⟩:=a2;have last:SM BQ (ay0 M ta.toNat tk.toNat []):=fun i=>(n2.sM i).le (by unfold BQ;omega);refine ⟨?_,(),?_,last,fun _=>n2,?_⟩
 ·repeat' first | assumption | rfl | apply And.intro
 ·repeat' first | assumption | rfl | apply And.intro
 rw [pK e0,iR];refine ⟨⟨⟨⟨q1,by rw [eW];exact q1⟩,q2,by rw [eB];exact q2⟩,q3,by rw [eD];exact q3⟩,?_⟩;rw [pK (show SmP _ _ _ _ _ _ from ⟨eW.symm,eB.symm,eD.symm⟩),iR];have ny:=g.ny;have pr:=g.pr h1;rw [w1,w2,w3,w4] at pr;rw [w4] at ny;exact ⟨hM',⟨ny,q1,q2,q3⟩,pK ⟨hc,pr⟩⟩
theorem a7H:aqn (cfg []) bam:=cf a74 bp Tryz.func3 fun a _ _ _ hc hg hf=>by change a6Y a=_ at hc;unfold a6Y at hc;split at hc <;> cases hc;cases aY (a7E _ _ _ _ _ _) (a7F _ _ _ _ _ _ hg);exact ⟨rfl,by kernel_rfl,_,by assumption⟩
end Go.Proofs.YtefbmebfkfeefaaGreatDoor.AM
namespace Go.Proofs.YtefbmebfkfeefaaGreatDoor
open Go.ChangeShapes Go.WideShapes Go.ChangeAt Go.RowKit AM
noncomputable def aWP (os:Os):World:={ World.holding Tryz.prog os ⟨#[],#[],[]⟩ with heap:=((World.holding Tryz.prog os ⟨#[],#[],[]⟩).heap.modify 2 (OU #[.int .u8 0,.int .u8 1,.int .u8 56,.int .u8 2,.int .u8 57,.int .u8 49,.int .u8 28,.int .u8 3,.int .u8 61,.int .u8 58,.int .u8 42,.int .u8 50,.int .u8 38,.int .u8 29,.int .u8 17,.int .u8 4,.int .u8 62,.int .u8 47,.int .u8 59,.int .u8 36,.int .u8 45,.int .u8 43,.int .u8 51,.int .u8 22,.int .u8 53,.int .u8 39,.int .u8 33,.int .u8 30,.int .u8 24,.int .u8 18,.int .u8 12,.int .u8 5,.int .u8 63,.int .u8 55,.int .u8 48,.int .u8 27,.int .u8 60,.int .u8 41,.int .u8 37,.int .u8 16,.int .u8 46,.int .u8 35,.int .u8 44,.int .u8 21,.int .u8 52,.int .u8 32,.int .u8 23,.int .u8 11,.int .u8 54,.int .u8 26,.int .u8 40,.int .u8 15,.int .u8 34,.int .u8 20,.int .u8 31,.int .u8 10,.int .u8 25,.int .u8 14,.int .u8 19,.int .u8 9,.int .u8 13,.int .u8 8,.int .u8 7,.int .u8 6])) }
theorem a4C {W:World} (h:laidMetH Tryz.prog Rows.marginOneRow.laid W):cK W:=by
 have h1:laidMet Tryz.prog [("math/bits.deBruijn64tab",Rows.laid_math_bits_deBruijn64tab)] W:=h
 exact EU (by kernel_rfl) h1 trivial
theorem a2q (H:Type) (enc:TypeId×Value->H) (W:World) (base:Nat) (args:Array Value) (ds gs:List (DataW H)) (before:List MemPlace)
  (fV:∀(j:Nat) t v,Tryz.f3.params[j]? = some t->args[j]? = some v->Value.okWide Tryz.prog W .any base t v)
  (hW:DataW.Whole enc Tryz.prog Tryz.f3.params.toList Rows.marginOneSpec.vars false W args.toList ds gs before) (aan:cK W) :
  Calls Tryz.prog 3 args W fun e W'=>∃v,e = .returned v/\Rows.marginOneSpec.post enc Tryz.prog Tryz.f3 false true false false W args v W':=by
 have YR:=hW
 obtain ⟨p,q,hA0,hV,rfl,hfz,hnd⟩:=hW
 have hA:DataW.TrodAll enc Tryz.prog W 0 (fun _=>true) true Tryz.f3.params.toList args.toList ds p:=hA0
 rw [Tryz.params3] at hA fV
 obtain ⟨v0,vs0,d0,ds0,p0,q0,IE,rfl,rfl,h0,r0⟩:=trodAll_cons hA
 obtain ⟨v1,vs1,d1,ds1,p1,q1,rfl,rfl,rfl,h1,r1⟩:=trodAll_cons r0
 obtain ⟨v2,vs2,d2,ds2,p2,q2,rfl,rfl,rfl,h2,r2⟩:=trodAll_cons r1
 obtain ⟨v3,vs3,d3,ds3,p3,q3,rfl,rfl,rfl,h3,r3⟩:=trodAll_cons r2
 obtain ⟨v4,vs4,d4,ds4,p4,q4,rfl,rfl,rfl,h4,r4⟩:=trodAll_cons r3
 obtain ⟨v5,vs5,d5,ds5,p5,q5,rfl,rfl,rfl,h5,r5⟩:=trodAll_cons r4
 obtain ⟨rfl,rfl,rfl⟩:=trodAll_nil r5
 obtain rfl:args = #[v0,v1,v2,v3,v4,v5]:=by cases args;simp_all
 obtain ⟨rfl,rfl⟩:=trodVars_none hV
 obtain ⟨l0,s0,g0⟩:=aet Tryz.underlying22 Tryz.underlying3 (by kernel_rfl) (fV 0 22 v0 rfl rfl) h0
 obtain ⟨a1,rfl,rfl,rfl,w1⟩:=open_int Tryz.underlying3 (fV 1 3 v1 rfl rfl) h1
 obtain ⟨a2,rfl,rfl,rfl,w2⟩:=open_int Tryz.underlying3 (fV 2 3 v2 rfl rfl) h2
 obtain ⟨a3,rfl,rfl,rfl,w3⟩:=open_int Tryz.underlying3 (fV 3 3 v3 rfl rfl) h3
 obtain ⟨a4,rfl,rfl,rfl,w4⟩:=open_int Tryz.underlying3 (fV 4 3 v4 rfl rfl) h4
 obtain ⟨a5,rfl,rfl,rfl,w5⟩:=open_int Tryz.underlying3 (fV 5 3 v5 rfl rfl) h5
 clear hA0
 refine (Mg (args:=[.k (.list (.int .i64)) l0,.k (.int .i64) a1,.k (.int .i64) a2,.k (.int .i64) a3,.k (.int .i64) a4,.k (.int .i64) a5]) (vs:=[v0,.int .i64 a1,.int .i64 a2,.int .i64 a3,.int .i64 a4,.int .i64 a5]) a7H rfl ⟨g0,wf_i64 w1,wf_i64 w2,wf_i64 w3,wf_i64 w4,wf_i64 w5⟩ aan ⟨s0,(.mkInt _ _),(.mkInt _ _),(.mkInt _ _),(.mkInt _ _),(.mkInt _ _),trivial⟩).mono fun e W' ⟨he,hg⟩=>?_
 subst he
 exact ⟨_,rfl,OV rfl rfl (fun t ht=>by
  rw [Tryz.params3] at ht;have bB:([22,3,3,3,3,3].all fun u=>Tryz.prog.readableRec u&&decide (u<Tryz.prog.types.size))=true:=by kernel_rfl
  have:=uZ.1 bB t (by simpa using ht);simpa using this) YR ⟨rfl,rfl,rfl⟩ hg⟩
theorem a5X (os:Os):laidMet Tryz.prog Rows.marginOneRow.laid ((aWP os).forCall (fun _ _=>0) ⟨#[],#[.slice none 0 0,.int .i64 0,.int .i64 0,.int .i64 0,.int .i64 0,.int .i64 0],[]⟩).memory:=laidMet_of_run' 8 (by kernel_rfl) (by kernel_rfl)
theorem a4H (os:Os) {H:Type} (enc:TypeId×Value->H):∃places,DataW.whole enc Tryz.prog ((aWP os).forCall (fun _ _=>0) ⟨#[],#[.slice none 0 0,.int .i64 0,.int .i64 0,.int .i64 0,.int .i64 0,.int .i64 0],[]⟩).memory Tryz.f3.params.toList Rows.marginOneSpec.vars false (#[.slice none 0 0,.int .i64 0,.int .i64 0,.int .i64 0,.int .i64 0,.int .i64 0]:Array Value).toList 8=some ([.nil,.lit (.int .i64 0),.lit (.int .i64 0),.lit (.int .i64 0),.lit (.int .i64 0),.lit (.int .i64 0)],[],places):=⟨[],by kernel_rfl⟩
theorem a3Z (os:Os) (started:os.Started) (H:Type) (enc:TypeId×Value->H) (F:Stop.Interp) :
  ReturnsInHanded {} Tryz.checked os 3 .any ((OpenSpec.ofChange Rows.marginOneSpec).preRow enc Tryz.prog Tryz.f3 Rows.marginOneRow.domain false Rows.marginOneRow.laid) (((OpenSpec.ofChange Rows.marginOneSpec).at F).post enc Tryz.prog Tryz.f3 false true false false):=by
 obtain ⟨places,hx⟩:=a4H os enc
 refine returnsInHanded_of_row (C:=Tryz.checked) (s:=OpenSpec.ofChange Rows.marginOneSpec) own started (by kernel_rfl) Tryz.func3
  (witness_row_at (enc:=enc) (C:=Tryz.checked) false (aWP os) #[.slice none 0 0,.int .i64 0,.int .i64 0,.int .i64 0,.int .i64 0,.int .i64 0] rfl (by kernel_rfl) (by kernel_rfl) (by kernel_rfl)
   (OpenSpec.preRow_of_cond 8 hx (by kernel_rfl) (fun k hk=>by cases hk) (by kernel_rfl) (a5X os))) ?_
 intro W base args ds gs before fV hW _ _ _ hL _ _
 exact a2q H enc W base args ds gs before fV hW (a4C hL)
theorem a4J:Rows.MarginOneSaid:=
 OpenClaim.holds_of_cond 3 Tryz.f3 rfl rfl rfl rfl rfl rfl rfl ⟨rfl,rfl,rfl,rfl,rfl⟩ rfl rfl rfl rfl rfl (by kernel_rfl) Tryz.func3 (by kernel_rfl)
  (AA (by kernel_rfl)) (by unfold Func.isWrapper;first | (rw [aV (by decide +kernel)];kernel_rfl) | (rw [aI (by decide +kernel)];exact ⟨rfl,rfl⟩))
  (fun os started H enc _ F=>by rw [OpenClaim.pre_eq_preRow];exact a3Z os started H enc F)
theorem a5f (f:FuncId) (fn:Func) (hf:Tryz.pinned.checked.prog.funcNamed "abaculus/abaculuslaw32.MarginOne" = some f) (hfn:Tryz.pinned.checked.prog.funcs[f]? = some fn) :
  false=Tryz.pinned.checked.prog.looks []/\∀(j:Nat) t,fn.params[j]? = some t->Tryz.pinned.checked.prog.wantsStandIn t=false:=by
 obtain rfl:f=3:=Option.some.inj ((show Tryz.prog.funcNamed "abaculus/abaculuslaw32.MarginOne" = some 3 by kernel_rfl).symm.trans hf) |>.symm
 obtain rfl:fn=Tryz.f3:=(Option.some.inj (Tryz.func3.symm.trans hfn)).symm
 refine ⟨by kernel_rfl,fun j t ht=>?_⟩
 rw [Tryz.params3] at ht
 have hm:t∈[22,3,3,3,3,3]:=by simpa using Array.mem_of_getElem? ht
 have bB:([22,3,3,3,3,3].all fun u=> !Tryz.prog.wantsStandIn u)=true:=by kernel_rfl
 exact (show Tryz.prog.wantsStandIn t=false by simpa using uZ.1 bB t hm)
theorem marginOneCard_holds:Rows.MarginOneCardSaid:=Claim7.holds_tied_plain_at .later [] _ _ _ _ a4J (fun _ h=>by cases h) (by kernel_rfl) (fun _ h=>by cases h) marginOne_row_tie rfl ⟨rfl,rfl⟩ (by kernel_rfl) rfl a5f (by kernel_rfl)
#print axioms marginOneCard_holds
end Go.Proofs.YtefbmebfkfeefaaGreatDoor
