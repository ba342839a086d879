/- a line tells a side and how far, as the line of least squares does; each row that was learned from is at least half of the width on its side. margin.Answer; MarginAnswers, by abstract execution. (Printed by vc.py.) Two contracts of one function. MarginMoves: what moved rows and exchanged sides have. law32.drawn and MarginFits, by abstract execution. (Printed by vc.py.) The line of the widest street: what it hangs on; other orders, doubled rows, moved rows, sides exchanged. MarginFits: what the steps end in; the rows that are drawn. MarginMany, by abstract execution. (Printed by vc.py.) The document's widest street, by abstract execution. (Printed by vc.py.) margin.Same, Joins, Meet, Proof, by abstract execution. (Printed by vc.py.) margin.Fit, Same; chapter 32's known example; the document's errors; by abstract execution. (Printed by vc.py.) The document's lines of least squares, by abstract execution. (Printed by vc.py.) The document's determinants and inverses, by abstract execution. (Printed by vc.py.) elim.Det: determinants by elimination, by abstract execution. (Printed by vc.py.) The document's reduced forms, kernels, solutions, by abstract execution. (Printed by vc.py.) Chapter 12's statements: the line of least squares, by abstract execution. (Printed by vc.py.) Least squares: what a fitted line is. -/
import Derived.Test.YtinjjghecedkeaaGreatDoorCards
import Derived.Test.YtinjjghecedkeaaGreatDoorBd12
set_option maxRecDepth 100000
set_option linter.unusedVariables false
set_option linter.unusedSimpArgs false
set_option maxHeartbeats 1000000
namespace Go.Proofs.YtinjjghecedkeaaGreatDoor.AM
section
variable {x:List (List Rat)} {y:List Rat} {r:Rat}
end
open Go.RowKit
def cvRowsI:az:=⟨57,false,fun args=>match args with
 | [.k (.list (.int .i64)) l,.k (.int .i64) n,.k (.int .i64) m]=>some (some ((∀i,ax (l.getD i 0))/\((0:Int)<=n/\n<=1000000)/\(0:Int)<=m/\m<=1000000),.k (.list (.list .rq)) (aG n.toNat m.toNat fun i j=>cE l (i*m.toNat+j)),[])
 | _=>none⟩
theorem asq:ah (cfg []) cvRowsI:=ly agI fun args g r hn hc hg=>by
 split at hc
 ·rename_i l n m;obtain ⟨rfl,rfl,rfl⟩:=aN hc;obtain ⟨h1,⟨h2,h3⟩,h4,h5⟩:=hg;have h2 : @LE.le Int _ 0 n:=h2;have h3 : @LE.le Int _ n 1000000:=h3;have h4 : @LE.le Int _ 0 m:=h4;have h5 : @LE.le Int _ m 1000000:=h5;obtain ⟨a,rfl⟩:=Ag h2;obtain ⟨b,rfl⟩:=Ag h4;exact ⟨_,rfl,h1,by omega,by omega⟩
 ·cases hc
def cvRowI:az:=⟨26,false,fun args=>match args with
 | [.k (.list (.int .i64)) l,.k (.int .i64) n]=>some (some ((∀i,ax (l.getD i 0))/\(0:Int)<=n/\n<=1000000),.k (.list .rq) (aA n.toNat (cE l)),[])
 | _=>none⟩
theorem asN:ah (cfg []) cvRowI:=ly ahA fun args g r hn hc hg=>by
 split at hc
 ·rename_i l n;obtain ⟨rfl,rfl,rfl⟩:=aN hc;obtain ⟨h1,h2,h3⟩:=hg;have h2 : @LE.le Int _ 0 n:=h2;have h3 : @LE.le Int _ n 1000000:=h3;obtain ⟨a,rfl⟩:=Ag h2;exact ⟨_,rfl,h1,by omega⟩
 ·cases hc
theorem arz {a:Int} (h:ax a):Sq 256 (a:Rat):=(Sq.int (k:=64) (Sm.lit (by unfold ax at h;omega)) (by omega)).le (by omega)
theorem asO {a:Int} (h:ax a):SL 256 [(a:Rat)]:=fun i=>match i with
 | 0=>arz h
 | _+1=>Sq.zero _ (by omega)
def SzQ (M:LM) (k:Nat) (x:Rat):Prop:=∀s,1<=s->SM s M->Sq (s*5^k) x
structure DI (M:LM) (k:Nat) (d:Rat) (F:Nat->Nat->Rat):Prop where
 det:acb M.length (el M) k d F
 szF:∀i j,SzQ M k (F i j)
 szD:SzQ M k d
section
variable {x:List (List Rat)} {y:List Rat} {r:Rat}
end
theorem aTF {x:Rat}:x.num.sign=0↔x=0:=by
 constructor
 ·intro h;have h1:¬x<0:=fun h2=>by have:=aO0.2 h2;omega
  have h3:¬0<x:=fun h2=>by have:=aUp.2 h2;omega
  grind
 ·intro h;rw [h];rfl
theorem NrG.aVw {M:List (List Rat)} {is:List Bool} (h:NrG M is):(akv M is).length=M.length/\HdW M.length (al M) (vMg M is) (ub is) (cw (akv M is))/\∃lm,OpW M.length (al M) (vMg M is) (ub is) (cw (akv M is)) lm:=by have S:=h.start;obtain ⟨a1,a2,a3⟩:=aSe (muW M.length (al M) (vMg M is) (ub is) (cw (stP is M.length 2))+1) S.lb S.hd (tG _);obtain ⟨lm,b1,_⟩:=aVW S.lb S.hd;have e:outL M.length (al M) (vMg M is) (ub is) (muW M.length (al M) (vMg M is) (ub is) (cw (stP is M.length 2))+1) (stP is M.length 2)=akv M is:=S.en;rw [e] at a1 a2;rw [S.en] at b1;exact ⟨a2,a1,lm,b1⟩
theorem NrG.mg {M:List (List Rat)} {is:List Bool} (h:NrG M is):MgG M is (akv M is):=by obtain ⟨a1,a2,_⟩:=h.aVw;exact ⟨h.right,h.len,h.n24,h.w3,h.sM,a1,(h.hd a1 a2).le (by unfold GB;omega)⟩
noncomputable def aOu (M:List (List Rat)) (is:List Bool):Rat:=dW (wyL M is (akv M is)) (wyL M is (akv M is))
noncomputable def mfE (M:List (List Rat)) (is:List Bool):Int:=if chE M is=0 then (if aOu M is=0 then 8 else 0) else chE M is
noncomputable def mfW (M:List (List Rat)) (is:List Bool):List Rat:=if mfE M is=0 then wyL M is (akv M is) else []
noncomputable def mfB (M:List (List Rat)) (is:List Bool):Rat:=if mfE M is=0 then stQ M is (akv M is) else 0
noncomputable def mfD (M:List (List Rat)) (is:List Bool):Rat:=if mfE M is=0 then aOu M is else 0
noncomputable def mfY (M:List (List Rat)) (is:List Bool):List Rat:=if mfE M is=0 then akv M is else []
theorem aVx {M:List (List Rat)} {is:List Bool} {e:Int} (h:mfE M is=e) (h0:e≠0):((mfW M is=[]/\0=mfB M is)/\0=mfD M is/\mfY M is=[])/\e=mfE M is:=by
 have hn:¬mfE M is=0:=by rw [h];exact h0
 unfold mfW mfB mfD mfY;rw [aI hn,aI hn,aI hn,aI hn];exact ⟨⟨⟨rfl,rfl⟩,rfl,rfl⟩,h.symm⟩
theorem aUq {M:List (List Rat)} {is:List Bool} (h:mfE M is=0):((wyL M is (akv M is)=mfW M is/\stQ M is (akv M is)=mfB M is)/\aOu M is=mfD M is/\akv M is=mfY M is)/\0=mfE M is:=by unfold mfW mfB mfD mfY;rw [aV h,aV h,aV h,aV h];exact ⟨⟨⟨rfl,rfl⟩,rfl,rfl⟩,h.symm⟩
noncomputable def LJ6:List az:=aTd::aQS::aRB::Nj::[]
theorem aV7:bd LJ6:=⟨aTz,aRt,aSp,J0,trivial⟩
noncomputable def fmFit:List AV->Option (Option Prop×AV×List Ob)
 | [.k (.list (.list .q)) M,.k (.list .bool) is]=>some (some (chE M is=0->NrG M is),T2 (.agg (.cons (.agg (.cons (.k (.list .q) (mfW M is)) (.cons (.k .q (mfB M is)) .nil))) (.cons (.k .q (mfD M is)) (.cons (.k (.list .q) (mfY M is)) .nil)))) (.k (.int .i64) (mfE M is)),[])
 | _=>none
noncomputable def aT3:az:=⟨25,false,fmFit⟩
noncomputable def aVy (M:List (List Rat)) (is:List Bool):bk:=⟨nU,nL,nR,nU⟩
def aT4 (M:List (List Rat)) (is:List Bool):Prop:=
 let t1:=wyL M is (akv M is);
 bif !decide (chE M is=(0:Int)) then ((mfW M is=[]/\(0:Rat)=mfB M is)/\(0:Rat)=mfD M is/\mfY M is=[])/\chE M is=mfE M is else NrG M is/\MgG M is
 (akv M is)/\Sq BQ (dW t1 t1)/\bif decide ((dW t1 t1).num.sign=(0:Int)) then ((mfW M is=[]/\(0:Rat)=mfB M is)/\(0:Rat)=mfD M is/\mfY M is=[]) /\
 (8:Int)=mfE M is else ((wyL M is (akv M is)=mfW M is/\stQ M is (akv M is)=mfB M is)/\dW t1 t1=mfD M is/\akv M is=mfY M is)/\(0:Int)=mfE M is
theorem aUH (M:List (List Rat)) (is:List Bool):aw LJ6 [] (aVy M is) Tryz.f25 (T2 (.agg (.cons (.agg (.cons (.k (.list .q) (mfW M is)) (.cons (.k .q (mfB M is)) .nil))) (.cons (.k .q (mfD M is)) (.cons (.k (.list .q) (mfY M is)) .nil)))) (.k (.int .i64) (mfE M is))) [.k (.list (.list .q)) M,.k (.list .bool) is]=aT4 M is:=by kernel_rfl
theorem aUI (M:List (List Rat)) (is:List Bool) (hg:chE M is=0->NrG M is):aT4 M is:=by
 unfold aT4;dsimp only;refine dP (fun h=>aVx (aI h) h) fun h=>?_
 have g:=hg h;have hd:Sq 700000000 (dW (wyL M is (akv M is)) (wyL M is (akv M is))):=aVi g.mg.sw g.mg.sw g.mg.lw (by omega);refine ⟨g,g.mg,hd.le (by unfold BQ;omega),aH (fun h2=>?_) fun h2=>?_⟩
 ·have e:mfE M is=8:=by
   unfold mfE;rw [aV h];exact aV (aTF.1 h2)
  exact aVx e (by decide)
 ·have e:mfE M is=0:=by
   unfold mfE;rw [aV h];exact aI fun h3=>h2 (aTF.2 h3)
  exact aUq e
theorem aRD:ah (cfg []) aT3:=cf aV7 bp Tryz.func25 (by kernel_rfl) fun args g r hn hc hg hf=>by
 replace hc:fmFit args=some (g,r,hn):=hc;unfold fmFit at hc;split at hc
 ·obtain ⟨rfl,rfl,rfl⟩:=aN hc;cases aY (aUH _ _) (aUI _ _ hg);exact ⟨rfl,by kernel_rfl,_,by assumption⟩
 ·cases hc
def knM:List (List Rat):=[[((0:Int):Rat)],[((2:Int):Rat)]]
def knS:List Bool:=[false,true]
theorem aXY:chE knM knS=0:=by
 have h1:Shp knM knS:=⟨rfl,by decide,by decide,rfl⟩
 unfold chE;rw [aV h1,aI (by decide)];exact aI fun h=>absurd (h 1 (by decide)) (by decide)
theorem aVz:NrG knM knS:=by
 have i0:ax 0:=by unfold ax;omega
 have i2:ax 2:=by unfold ax;omega
 refine ⟨rfl,rfl,by decide,by decide,fun i=>match i with
  | 0=>asO i0
  | 1=>asO i2
  | _+2=>SL.nil (by omega),fun i j=>match i,j with
  | 0,0=>⟨0,by decide,by kernel_rfl⟩
  | 0,_+1=>⟨0,by decide,by kernel_rfl⟩
  | 1,0=>⟨24,by decide,by kernel_rfl⟩
  | 1,_+1=>⟨0,by decide,by kernel_rfl⟩
  | _+2,_=>⟨0,by decide,by kernel_rfl⟩,fun t=>match t with
  | true=>⟨1,by decide,rfl⟩
  | false=>⟨0,by decide,rfl⟩⟩
theorem aV8:cw (akv knM knS) 0=1/\cw (akv knM knS) 1=1:=by obtain ⟨_,_,lm,h⟩:=aVz.aVw;have h0:0+(if ub knS 0=false then cw (akv knM knS) 0 else 0)+(if ub knS 1=false then cw (akv knM knS) 1 else 0)=1:=h.sum false;have h1:0+(if ub knS 0=true then cw (akv knM knS) 0 else 0)+(if ub knS 1=true then cw (akv knM knS) 1 else 0)=1:=h.sum true;rw [aV (show ub knS 0=false from rfl),aI (show ¬ub knS 1=false by decide)] at h0;rw [aI (show ¬ub knS 0=true by decide),aV (show ub knS 1=true from rfl)] at h1;exact ⟨by grind,by grind⟩
theorem aVA:ptS knM knS (akv knM knS) true 2 0=2/\ptS knM knS (akv knM knS) false 2 0=0:=by
 obtain ⟨h0,h1⟩:=aV8;have e0:el knM 0 0=0:=by kernel_rfl
 have e1:el knM 1 0=2:=by kernel_rfl
 constructor
 ·show 0+(if ub knS 0=true then el knM 0 0*cw (akv knM knS) 0 else 0)+(if ub knS 1=true then el knM 1 0*cw (akv knM knS) 1 else 0)=2;rw [aI (show ¬ub knS 0=true by decide),aV (show ub knS 1=true from rfl),h1,e1];grind
 ·show 0+(if ub knS 0=false then el knM 0 0*cw (akv knM knS) 0 else 0)+(if ub knS 1=false then el knM 1 0*cw (akv knM knS) 1 else 0)=0;rw [aV (show ub knS 0=false from rfl),aI (show ¬ub knS 1=false by decide),h0,e0];grind
theorem aVB (t:Bool):ptL knM knS (akv knM knS) t=[ptS knM knS (akv knM knS) t 2 0]:=rfl
theorem aVC:wyL knM knS (akv knM knS)=[2]:=by obtain ⟨h0,h1⟩:=aVA;have e:wyL knM knS (akv knM knS)=[ptS knM knS (akv knM knS) true 2 0-ptS knM knS (akv knM knS) false 2 0]:=rfl;rw [e,h0,h1];congr 1;grind
theorem aV9:mfE knM knS=0/\mfW knM knS=[2]/\mfB knM knS = -2/\mfD knM knS=4:=by
 have hd:aOu knM knS=4:=by unfold aOu;rw [aVC];kernel_rfl
 have he:mfE knM knS=0:=by unfold mfE;rw [aV aXY,hd];exact aI (by decide)
 obtain ⟨⟨⟨a1,a2⟩,a3,_⟩,_⟩:=aUq he;refine ⟨he,by rw [<-a1];exact aVC,?_,by rw [<-a3];exact hd⟩;rw [<-a2];unfold stQ;obtain ⟨h0,h1⟩:=aVA;rw [aVB,aVB,h0,h1];kernel_rfl
noncomputable def LJ7:List az:=aa5::aa9::aT3::[]
theorem aWa:bd LJ7:=⟨V5,WS,aRD,trivial⟩
def fmKnown:List AV->Option (Option Prop×AV×List Ob)
 | []=>some (none,.k .bool true,[])
 | _=>none
def aTG:az:=⟨29,false,fmKnown⟩
def aT5  : bk:=⟨nU,nL,nR,nU⟩
def aQT  : Prop:=
 let t1:=mfW [[(↑(0:Int):Rat)],[(↑(2:Int):Rat)]] [false,true];
 ax (0:Int)/\ax (2:Int)/\(chE [[(↑(0:Int):Rat)],[(↑(2:Int):Rat)]] [false,true]=(0:Int)->NrG [[(↑(0:Int):Rat)],[(↑(2:Int):Rat)]] [false,
 true])/\(t1.length<=aB->((0:Int)<=(0:Int)/\(0:Int)<(↑t1.length:Int))/\(Sq BQ (t1.getD (Int.toNat (0:Int)) (0:Rat))/\ax (2:Int)/\ax (1:Int)
 /\ (1:Int)≠(0:Int))/\(Sq BQ (mfB [[(↑(0:Int):Rat)],[(↑(2:Int):Rat)]] [false,true])/\ax (-2:Int)/\ax (1:Int)/\(1:Int)≠(0:Int))/\(Sq BQ
 (mfD [[(↑(0:Int):Rat)],[(↑(2:Int):Rat)]] [false,true])/\ax (4:Int)/\ax (1:Int)/\(1:Int)≠(0:Int))/\decide (mfD [[(↑(0:Int):Rat)],[(↑(2 :
 Int):Rat)]] [false,true]=(↑(4:Int):Rat)/(↑(1:Int):Rat))=true)
theorem aTH  : aw LJ7 [] (aT5 ) Tryz.f29 (.k .bool true) []=aQT  :=by kernel_rfl
theorem aTJ  (hf:cJ []):aQT  :=by
 obtain ⟨e0,e1,e2,e3⟩:=aV9;have i0:ax 0:=by unfold ax;omega
 have i1:ax 1:=by unfold ax;omega
 have i2:ax 2:=by unfold ax;omega
 have im:ax (-2):=by unfold ax;omega
 have i4:ax 4:=by unfold ax;omega
 have hB:(256:Nat)<=BQ:=by unfold BQ;omega
 unfold aQT;dsimp only;change ax 0/\ax 2/\(chE knM knS=0->NrG knM knS)/\((mfW knM knS).length<=aB->(_/\(0:Int)<((mfW knM knS).length:Int))/\(Sq BQ ((mfW knM knS).getD _ 0)/\_)/\(Sq BQ (mfB knM knS)/\_)/\(Sq BQ (mfD knM knS)/\_)/\decide (mfD knM knS=_)=true)
 rw [e1,e2,e3];exact ⟨i0,i2,fun _=>aVz,fun _=>⟨⟨by omega,by decide⟩,⟨(arz i2).le hB,i2,i1,by decide⟩,⟨(arz im).le hB,im,i1,by decide⟩,⟨(arz i4).le hB,i4,i1,by decide⟩,by kernel_rfl⟩⟩
theorem aTK:ah (cfg []) aTG:=cf aWa bp Tryz.func29 (by kernel_rfl) fun args g r hn hc hg hf=>by
 replace hc:fmKnown args=some (g,r,hn):=hc;unfold fmKnown at hc;split at hc
 ·obtain ⟨rfl,rfl,rfl⟩:=aN hc;cases aY (aTH ) (aTJ  hf);exact ⟨rfl,by kernel_rfl,_,by assumption⟩
 ·cases hc
def PrP (M:List (List Rat)) (is:List Bool) (W:List Rat) (B D:Rat) (Y:List Rat):Prop:=WtP Y is/\W=wyL M is Y/\B=stQ M is Y/\D=dW (wyL M is Y) (wyL M is Y)/\0<D/\∀i,i<M.length->aGr M is Y i=false
instance (M:List (List Rat)) (is:List Bool) (W:List Rat) (B D:Rat) (Y:List Rat):Decidable (PrP M is W B D Y):=by unfold PrP;infer_instance
def PrC (M:List (List Rat)) (is:List Bool) (W:List Rat) (B D:Rat) (Y:List Rat):Prop:=chE M is=0/\PrP M is W B D Y
instance (M:List (List Rat)) (is:List Bool) (W:List Rat) (B D:Rat) (Y:List Rat):Decidable (PrC M is W B D Y):=by unfold PrC;infer_instance
def SlP (W V:List Rat) (B A:Rat):Prop:=W=V/\B=A
instance (W V:List Rat) (B A:Rat):Decidable (SlP W V B A):=by unfold SlP;infer_instance
def SmP (W V:List Rat) (B A D E:Rat):Prop:=W=V/\B=A/\D=E
instance (W V:List Rat) (B A D E:Rat):Decidable (SmP W V B A D E):=by unfold SmP;infer_instance
structure NyG (M:List (List Rat)) (is:List Bool) (b:List Rat):Prop where
 nr:chE M is=0->NrG M is
 n24:b.length<=24
 sb:SL GB b
theorem aVD {M:List (List Rat)} {is:List Bool} (h:chE M is=0):Shp M is/\M.length<=24/\∀t,∃i,i<M.length/\ub is i=t:=by
 unfold chE at h;by_cases h1:Shp M is
 ·rw [aV h1] at h;by_cases h2:24<M.length
  ·rw [aV h2] at h;exact absurd h (by decide)
  ·rw [aI h2] at h;refine ⟨h1,by omega,fun t=>?_⟩;unfold chI at h;by_cases h3:∀i,i<is.length->ub is i=ub is 0
   ·rw [aV h3] at h;exact absurd h (by decide)
   ·obtain ⟨i,hi⟩:=CR.1 h3;obtain ⟨h4,h5⟩:=Classical.not_imp.1 hi;have hl:=h1.2.2.2;by_cases h6:ub is 0=t
    ·exact ⟨0,by omega,h6⟩
    ·refine ⟨i,by omega,?_⟩
     cases h7:ub is i <;> cases h8:ub is 0 <;> cases t <;> simp_all
 ·rw [aI h1] at h;exact absurd h (by decide)
section
variable {M:List (List Rat)} {is:List Bool}
theorem aZR (M:List (List Rat)) (is:List Bool) (b:List Rat):dW (wyL M is b) (wyL M is b)=fMg M.length (al M) (vMg M is) (cw b):=by
 unfold dW;rw [aVh];exact uv fun j hj=>by unfold wyL;rw [fW hj,a06]
theorem a14 (M:List (List Rat)) (is:List Bool) (b:List Rat):0<=dW (wyL M is b) (wyL M is b):=by rw [aZR];exact aNb _ _ _ _
end
theorem a16 (n:Int):∃z:Int,z.natAbs<256/\hR n*12=(z:Rat):=by
 have hm:0<=n%41/\n%41<41:=⟨Int.emod_nonneg _ (by omega),Int.emod_lt_of_pos _ (by omega)⟩
 have key:∀d k:Int,(d:Rat)≠0->d*k=12->0<=k->k<=12->∃z:Int,z.natAbs<256/\((n%41-20:Int):Rat)/(d:Rat)*12=(z:Rat):=fun d k h0 e k0 k1=>by
  refine ⟨(n%41-20)*k,?_,?_⟩
  ·rw [yT];have h1:(n%41-20).natAbs<=20:=by omega
   have h2:k.natAbs<=12:=by omega
   have:=yc h1 h2;omega
  ·rw [show (12:Rat)=((12:Int):Rat) from rfl, <- e,G7,G7, <- Rat.mul_assoc,Gm h0]
 unfold hR dd;by_cases h3:n.tdiv 41%6=3
 ·rw [aV h3];exact key 2 6 (by decide) (by decide) (by decide) (by decide)
 ·rw [aI h3];by_cases h4:n.tdiv 41%6=4
  ·rw [aV h4];exact key 3 4 (by decide) (by decide) (by decide) (by decide)
  ·rw [aI h4];by_cases h5:n.tdiv 41%6=5
   ·rw [aV h5];exact key 4 3 (by decide) (by decide) (by decide) (by decide)
   ·rw [aI h5];exact key 1 12 (by decide) (by decide) (by decide) (by decide)
theorem aZU (l:List Int) (i:Nat):∃z:Int,z.natAbs<256/\cE l i*12=(z:Rat):=by
 unfold cE;split
 ·exact a16 _
 ·exact ⟨0,by decide,by rw [x6];rfl⟩
def dnM (l:List Int) (n w:Int):List (List Rat):=aG (n%8).toNat (w%3+1).toNat fun i j=>cE l (i*(w%3+1).toNat+j)
theorem aXW (l:List Int) (n w:Int):(dnM l n w).length=(n%8).toNat:=mkM_len ..
theorem aZV (l:List Int) (n w:Int):SM 256 (dnM l n w):=fun i=>by
 by_cases hi:i<(n%8).toNat
 ·unfold dnM;rw [na hi];exact SL.mk (fun _ _=>(WT _ _).le (by omega)) (by omega)
 ·rw [mZ (by rw [aXW];omega)];exact SL.nil (by omega)
theorem a17 {l:List Int} {n w:Int} {is:List Bool} (h:chE (dnM l n w) is=0):NrG (dnM l n w) is:=by
 obtain ⟨h1,h2,h3⟩:=aVD h;have hp:0<(n%8).toNat:=by have:=(ba h1.1).1;rw [aXW] at this;exact this
 refine ⟨h1.1,h1.2.2.2,h2,?_,aZV l n w,fun i j=>?_,h3⟩
 ·unfold dnM;rw [tM hp];omega
 ·by_cases hi:i<(n%8).toNat
  ·by_cases hj:j<(w%3+1).toNat
   ·unfold dnM;rw [Ny hi hj];obtain ⟨z,z1,z2⟩:=aZU l (i*(w%3+1).toNat+j);exact ⟨z,by omega,z2⟩
   ·refine ⟨0,by decide,?_⟩;have e:el (dnM l n w) i j=0:=by
     unfold dnM el;rw [na hi,ss (by omega)]
    rw [e,x6];rfl
  ·refine ⟨0,by decide,?_⟩;have e:el (dnM l n w) i j=0:=by
    unfold el;rw [mZ (xs:=dnM l n w) (by rw [aXW];omega)];rfl
   rw [e,x6];rfl
section
variable {n w:Nat} {v:Nat->Nat->Rat} {s:Nat->Bool} {b b':Nat->Rat} {lm lm':Bool->Rat}
theorem OpW.hi (h:OpW n w v s b lm) (t:Bool):hiW n w v s b t=lm t:=by
 have e:hiW n w v s b t=sumN (fun i=>lm t*(if s i=t then b i else 0)) n:=uv fun i hi=>by
  by_cases ht:s i=t
  ·rw [aV ht,aV ht];by_cases hp:0<b i
   ·rw [h.act i hi hp,ht,yv]
   ·have:b i=0:=by have:=h.nn i hi;grind
    rw [this,x6,ER]
  ·rw [aI ht,aI ht,ER]
 have h2:=h.sum t;unfold sdS at h2;rw [e,abC,h2,Ho]
end
section
variable {M:List (List Rat)} {is:List Bool} {b b':List Rat} {lm lm':Bool->Rat}
theorem aWT (h:OpW M.length (al M) (vMg M is) (ub is) (cw b) lm):stQ M is b=(lm false-lm true)/((2:Int):Rat):=by
 have h1:=aXh M is b true;have h2:=aXh M is b false;rw [aV rfl,h.hi] at h1;rw [aI (by decide),h.hi] at h2;have e:dW (ptL M is b false) (ptL M is b false)=dW (ptL M is b true) (ptL M is b true) + -(dW (wyL M is b) (ptL M is b true)+dW (wyL M is b) (ptL M is b false)):=by
  unfold dW;rw [aQP,aQP,aVh, <- acw, <- aTD, <- acw];exact uv fun j hj=>by rw [aUo true hj,aUo false hj];unfold wyL;rw [fW hj];grind
 unfold stQ;rw [e,h1,h2];congr 1;grind
theorem a1P (h:OpW M.length (al M) (vMg M is) (ub is) (cw b) lm):stQ M is b*2=lm false-lm true:=by rw [aWT h];exact Gm (by decide)
theorem a1Q (h:OpW M.length (al M) (vMg M is) (ub is) (cw b) lm):sumN (fun j=>dMg M.length (vMg M is) (cw b) j*dMg M.length (vMg M is) (cw b) j) (al M)=lm true+lm false:=h.wide
theorem a1p (h:OpW M.length (al M) (vMg M is) (ub is) (cw b) lm) {i:Nat} (hi:i<M.length):if ub is i=true then lm true+lm false<=2*(dW (wyL M is b) (M.getD i [])+stQ M is b) else 2*(dW (wyL M is b) (M.getD i [])+stQ M is b) <= -(lm true+lm false):=by
 have h1:=h.all i hi;have h2:=a1P h;have h4:=aUQ M is b i
 cases e:ub is i with
 | true=>rw [aV rfl];rw [e] at h1 h4;rw [aV rfl] at h4;grind
 | false=>rw [aI (by decide)];rw [e] at h1 h4;rw [aI (by decide)] at h4;grind
end
def sdI (s:Int) (i:Nat):Bool:=decide (aZc .i64 (aZd .i64 s (IntKind.u64.wrap (((i:Nat):Int).tmod 60))) 1=1)
def dnN (n odd:Int):Nat:=(n%8).toNat+if odd%12=11 then 1 else 0
def dnS (s n odd:Int):List Bool:=aA (dnN n odd) (sdI s)
noncomputable def a0l:List az:=Cy::cvRowsI::[]
theorem aZX:bd a0l:=⟨nJ,asq,trivial⟩
def flDrawn:List AV->Option (Option Prop×AV×List Ob)
 | [.k (.list (.int .i64)) l,.k (.int .i64) s,.k (.int .i64) n,.k (.int .i64) w,.k (.int .i64) odd]=>some (some ((∀i,ax (l.getD i 0))/\ax s/\ax n/\ax w/\ax odd),T2 (.k (.list (.list .rq)) (dnM l n w)) (.k (.list .bool) (dnS s n odd)),[])
 | _=>none
def aYK:az:=⟨24,false,flDrawn⟩
def aY8 (l:List Int) (s n w odd:Int):bk:=⟨nU,fun key_=>match key_ with
 | 7=>some (⟨Nat,fun i=>[(1,.k (.int .i64) s),(2,.k (.int .i64) ((dnN n odd:Nat):Int)),(12,.k (.list (.list .rq)) (dnM l n w)),(13,.own 13 0 1),(14,.k (.int .i64) ((i:Nat):Int))],
 fun i=>[(13,.arr 4 .bool (aA i (sdI s)))],
 fun _ i=>i<=dnN n odd,fun i=>dnN n odd-i⟩) | _=>none,nR,nU⟩
def aPS (l:List Int) (s n w odd:Int) (x:Nat):Prop:=bif decide ((↑x:Int)<(↑(dnN n odd):Int)) then (60:Int)≠(0:Int)/\(0:Int)<=IntKind.u64.wrap ((↑x:Int).tmod (60:Int))/\(aA x (sdI s)).length+[decide
 (aZc IntKind.i64 (aZd IntKind.i64 s (IntKind.u64.wrap ((↑x:Int).tmod (60:Int)))) (1:Int)=(1:Int))].length<=aB/\ax ((↑x:Int)+(1:Int))/\∃(x' :
 Nat),((s=s/\(↑(dnN n odd):Int)=(↑(dnN n odd):Int)/\dnM l n w=dnM l n w/\(↑x:Int)+(1:Int)=(↑x':Int))/\(aA x (sdI s)).append [decide (aZc
 IntKind.i64 (aZd IntKind.i64 s (IntKind.u64.wrap ((↑x:Int).tmod (60:Int)))) (1:Int)=(1:Int))]=aA x' (sdI s))/\x'<=dnN n odd/\dnN n odd-x'<dnN n odd -
 x else dnM l n w=dnM l n w/\aA x (sdI s)=dnS s n odd
def aXr (l:List Int) (s n w odd:Int):Prop:=
 let t1:=aG (n%(8:Int)).toNat (w%(3:Int)+(1:Int)).toNat fun (i j:Nat)=>cE l (i*(w%(3:Int)+(1:Int)).toNat+j);
 (ax n/\(0:Int)<(8:Int)/\(8:Int)<=(9223372036854775807:Int))/\(ax w/\(0:Int)<(3:Int)/\(3:Int)<=(9223372036854775807:Int))/\ax (w%(3 :
 Int)+(1:Int))/\((∀(i:Nat),ax (l.getD i (0:Int)))/\((0:Int)<=n%(8:Int)/\n%(8:Int)<=(1000000:Int))/\(0:Int)<=w%(3:Int)+(1:Int)/\w
 % (3:Int)+(1:Int)<=(1000000:Int))/\(ax odd/\(0:Int)<(12:Int)/\(12:Int)<=(9223372036854775807:Int))/\bif decide (odd%(12:Int)=(11:Int))
 then ax (n%(8:Int)+(1:Int))/\∃(x0:Nat),((s=s/\n%(8:Int)+(1:Int)=(↑(dnN n odd):Int)/\t1=dnM l n w/\(0:Int)=(↑x0:Int))/\aA x0 (sdI
 s)=[])/\x0<=dnN n odd/\∀(x:Nat),x<=dnN n odd->aPS l s n w odd x else ∃(x0:Nat),((s=s/\n%(8:Int)=(↑(dnN n odd):Int)/\t1=dnM l n w/\(0 :
 Int)=(↑x0:Int))/\aA x0 (sdI s)=[])/\x0<=dnN n odd/\∀(x:Nat),x<=dnN n odd->aPS l s n w odd x
theorem aYL (l:List Int) (s n w odd:Int):aw a0l [] (aY8 l s n w odd) Tryz.f24 (T2 (.k (.list (.list .rq)) (dnM l n w)) (.k (.list .bool) (dnS s n odd))) [.k (.list (.int .i64)) l,.k (.int .i64) s,.k (.int .i64) n,.k (.int .i64) w,.k (.int .i64) odd]=aXr l s n w odd:=by kernel_rfl
theorem aYM (l:List Int) (s n w odd:Int) (hg:(∀i,ax (l.getD i 0))/\ax s/\ax n/\ax w/\ax odd):aXr l s n w odd:=by
 obtain ⟨hl,hs,hn,hw,ho⟩:=hg;have key:∀x,x<=dnN n odd->aPS l s n w odd x:=fun x hx=>by
  unfold aPS;have hN:dnN n odd<=9:=by unfold dnN;split <;> omega
  have e0:0<=IntKind.u64.wrap (((x:Nat):Int).tmod 60):=by rw [IntKind.wrap_u64];omega
  refine aH (fun h=>?_) fun h=>?_
  ·refine ⟨by decide,e0,by rw [mX];show x+1<=aB;unfold aB;omega,by unfold ax;omega,x+1,⟨⟨rfl,rfl,rfl,rfl⟩,(tI x (sdI s)).symm⟩,by omega,by omega⟩
  ·exact ⟨rfl,by rw [show x=dnN n odd by omega];rfl⟩
 unfold aXr;have h2:dnM l n w=aG (n%8).toNat (w%3+1).toNat fun i j=>cE l (i*(w%3+1).toNat+j):=rfl
 refine ⟨⟨hn,by omega,by omega⟩,⟨hw,by omega,by omega⟩,by unfold ax;omega,⟨hl,⟨by omega,by omega⟩,by omega,by omega⟩,⟨ho,by omega,by omega⟩,aH (fun h=>⟨by unfold ax;omega,0,⟨⟨rfl,?_,rfl,rfl⟩,rfl⟩,fi _,key⟩) fun h=>⟨0,⟨⟨rfl,?_,rfl,rfl⟩,rfl⟩,fi _,key⟩⟩
 ·unfold dnN;rw [aV h];omega
 ·unfold dnN;rw [aI h];omega
theorem aYN:ah (cfg []) aYK:=cf aZX bp Tryz.func24 (by kernel_rfl) fun args g r hn hc hg hf=>by
 replace hc:flDrawn args=some (g,r,hn):=hc;unfold flDrawn at hc;split at hc
 ·obtain ⟨rfl,rfl,rfl⟩:=aN hc;cases aY (aYL _ _ _ _ _) (aYM _ _ _ _ _ hg);exact ⟨rfl,by kernel_rfl,_,by assumption⟩
 ·cases hc
section
variable {M M2:List (List Rat)} {S S2:List Bool}
end
theorem a0L {M:List (List Rat)} {S:List Bool} (h0:mfE M S=0):chE M S=0:=Aa fun hn=>by unfold mfE at h0;rw [aI hn] at h0;exact hn h0
theorem a2E {M:List (List Rat)} {S:List Bool} (g:NrG M S) (h0:mfE M S=0):SL BQ (mfW M S)/\Sq BQ (mfB M S)/\Sq BQ (mfD M S):=by
 obtain ⟨⟨⟨w1,w2⟩,w3,w4⟩,_⟩:=aUq h0;have mg:=g.mg;have hd:∀t,Sq 700000000 (dW (ptL M S (akv M S) t) (ptL M S (akv M S) t)):=fun t=>aVi (mg.sp t) (mg.sp t) (mg.lp t) (by omega);have hs:Sq BQ (stQ M S (akv M S)):=by unfold stQ;exact (((hd false).sub (hd true)).div (k:=64) Sq.atH (by decide)).le (by unfold BQ;omega)
 have hD:Sq BQ (aOu M S):=(aVi mg.sw mg.sw mg.lw (by omega):Sq 700000000 (aOu M S)).le (by unfold BQ;omega);have hW:SL BQ (wyL M S (akv M S)):=mg.sw.le (by unfold BQ;omega);rw [<-w1, <- w2, <- w3];exact ⟨hW,hs,hD⟩
def or2 (c d:az):az:=⟨c.f,false,fun args=>match c.c args with | some r=>some r | none=>d.c args⟩
theorem a1R {c d:az} (e:d.f=c.f) (h1:c.fresh=false) (h2:d.fresh=false) (hc:ah (cfg []) c) (hd:ah (cfg []) d):ah (cfg []) (or2 c d) where
 ent:=hc.ent
 ok args g r hn h hg F w vs iW mB:=by
  have h:(match c.c args with | some r=>some r | none=>d.c args)=some (g,r,hn):=h
  cases hx:c.c args with
  | some x=>rw [hx] at h;have:=hc.ok args g r hn (hx.trans h) hg F w vs iW mB;rw [h1] at this;exact this
  | none=>rw [hx] at h;have:=hd.ok args g r hn h hg F w vs iW mB;rw [e,h2] at this;exact this
theorem a1q (x:Rat):apW x=x\/apW x = -x:=by
 unfold apW
 cases decide (x.num<0)
 ·exact .inl rfl
 ·exact .inr rfl
theorem a1r (x:Rat):x<=apW x /\ -x<=apW x:=by
 unfold apW;by_cases h1:x.num<0
 ·have:=KO.1 fun h=>absurd (F3.2 h) (Int.not_le.2 h1);rw [px h1,iQ];grind
 ·have:=F3.1 (Int.not_lt.1 h1);rw [jo h1,sA];grind
def erC (W:List Rat):Int:=if 1<=W.length/\W.length<=20 then 0 else 5
def anY (W:List Rat) (B:Rat) (x:List Rat):Rat:=if W.length=x.length then dW W x+B else 0
def anE (W x:List Rat):Int:=if W.length=x.length then 0 else 5
def anS (W:List Rat) (B:Rat) (x:List Rat):Bool:=bif decide (W.length=x.length) then decide (0<dW W x+B) else false
def AnG (W:List Rat) (B:Rat) (x:List Rat):Prop:=lM W x/\Sq BQ (dW W x)/\Sq BQ B/\Sq BQ (dW W x+B)
noncomputable def a1s:List az:=[]
theorem a0z:bd a1s:=trivial
def fuCheckG:List AV->Option (Option Prop×AV×List Ob)
 | [.agg (.cons (.k (.list .q) W) (.cons (.k .q B) .nil))]=>some (none,.k (.int .i64) (erC W),[])
 | _=>none
def aX7:az:=⟨83,false,fuCheckG⟩
def a0A (W:List Rat) ( B:Rat):bk:=⟨nU,nL,nR,nU⟩
def aX8 (W:List Rat) ( B:Rat):Prop:=W.length<=aB->bif decide ((↑W.length:Int)<(1:Int)) then (5:Int)=erC W else W.length<=aB->bif decide ((20:Int)<(↑W.length:Int)) then (5:Int)=erC
 W else (0:Int)=erC W
theorem aZ2 (W:List Rat) ( B:Rat):aw a1s [] (a0A W B) Tryz.f83 (.k (.int .i64) (erC W)) [.agg (.cons (.k (.list .q) W) (.cons (.k .q B) .nil))]=aX8 W B:=by kernel_rfl
theorem aZ3 (W:List Rat) ( B:Rat) (hf:cJ [.agg (.cons (.k (.list .q) W) (.cons (.k .q B) .nil))]):aX8 W B:=by unfold aX8 erC;refine fun _=>aH (fun h=>(aI (by omega)).symm) fun h _=>aH (fun h2=>(aI (by omega)).symm) fun h2=>(aV (by omega)).symm
theorem aXH:ah (cfg []) aX7:=cf a0z bp Tryz.func83 (by kernel_rfl) fun args g r hn hc hg hf=>by
 replace hc:fuCheckG args=some (g,r,hn):=hc;unfold fuCheckG at hc;split at hc
 ·obtain ⟨rfl,rfl,rfl⟩:=aN hc;cases aY (aZ2 _ _) (aZ3 _ _ hf);exact ⟨rfl,by kernel_rfl,_,by assumption⟩
 ·cases hc
def fuCheckZ:List AV->Option (Option Prop×AV×List Ob)
 | [.agg (.cons .dv (.cons (.k .q B) .nil))]=>some (none,.k (.int .i64) (5:Int),[])
 | _=>none
def aZI:az:=⟨83,false,fuCheckZ⟩
def a0B (B:Rat):bk:=⟨nU,nL,nR,nU⟩
def aX9 (B:Rat):Prop:=(5:Int)=(5:Int)
theorem aZ4 (B:Rat):aw a1s [] (a0B B) Tryz.f83 (.k (.int .i64) (5:Int)) [.agg (.cons .dv (.cons (.k .q B) .nil))]=aX9 B:=by kernel_rfl
theorem aZ5 (B:Rat) (hf:cJ [.agg (.cons .dv (.cons (.k .q B) .nil))]):aX9 B:=by unfold aX9;rfl
theorem aZ6:ah (cfg []) aZI:=cf a0z bp Tryz.func83 (by kernel_rfl) fun args g r hn hc hg hf=>by
 replace hc:fuCheckZ args=some (g,r,hn):=hc;unfold fuCheckZ at hc;split at hc
 ·obtain ⟨rfl,rfl,rfl⟩:=aN hc;cases aY (aZ4 _) (aZ5 _ hf);exact ⟨rfl,by kernel_rfl,_,by assumption⟩
 ·cases hc
noncomputable def a1T:List az:=aX7::WU::xK::[]
theorem a1t:bd a1T:=⟨aXH,Q4,pI,trivial⟩
def fuAtG:List AV->Option (Option Prop×AV×List Ob)
 | [.agg (.cons (.k (.list .q) W) (.cons (.k .q B) .nil)),.k (.list .q) x]=>some (some ((1<=W.length/\W.length<=20/\W.length=x.length)/\AnG W B x),T2 (.k .q (dW W x+B)) (.k (.int .i64) (0:Int)),[])
 | _=>none
def a0Q:az:=⟨33,false,fuAtG⟩
def a1u (W:List Rat) ( B:Rat) (x:List Rat):bk:=⟨nU,nL,nR,nU⟩
def a0R (W:List Rat) ( B:Rat) (x:List Rat):Prop:=bif !decide (erC W=(0:Int)) then On (0:Int) (0:Nat)/\j6 (0:Int) (0:Nat)=dW W x+B/\(1:Int)=(0:Int) else (W.length=x.length->lM W x)/\bif
 !decide (W.length=x.length) then On (0:Int) (0:Nat)/\j6 (0:Int) (0:Nat)=dW W x+B/\(5:Int)=(0:Int) else (Sq BQ (if W.length=x.length then dW
 W x else (0:Rat))/\Sq BQ B)/\(if W.length=x.length then dW W x else (0:Rat))+B=dW W x+B/\(0:Int)=(0:Int)
theorem a1a (W:List Rat) ( B:Rat) (x:List Rat):aw a1T [] (a1u W B x) Tryz.f33 (T2 (.k .q (dW W x+B)) (.k (.int .i64) (0:Int))) [.agg (.cons (.k (.list .q) W) (.cons (.k .q B) .nil)),.k (.list .q) x]=a0R W B x:=by kernel_rfl
theorem a1b (W:List Rat) ( B:Rat) (x:List Rat) (hg:(1<=W.length/\W.length<=20/\W.length=x.length)/\AnG W B x):a0R W B x:=by obtain ⟨⟨h1,h2,h3⟩,h4,h5,h6,h7⟩:=hg;unfold a0R;have e:erC W=0:=aV ⟨h1,h2⟩;rw [aV h3];exact dP (fun h=>absurd e h) fun _=>⟨fun _=>h4,dP (fun h=>absurd h3 h) fun _=>⟨⟨h5,h6⟩,rfl,rfl⟩⟩
theorem aZJ:ah (cfg []) a0Q:=cf a1t bp Tryz.func33 (by kernel_rfl) fun args g r hn hc hg hf=>by
 replace hc:fuAtG args=some (g,r,hn):=hc;unfold fuAtG at hc;split at hc
 ·obtain ⟨rfl,rfl,rfl⟩:=aN hc;cases aY (a1a _ _ _) (a1b _ _ _ hg);exact ⟨rfl,by kernel_rfl,_,by assumption⟩
 ·cases hc
noncomputable def a1U:List az:=aX7::a0Q::Nj::[]
theorem a1v:bd a1U:=⟨aXH,aZJ,J0,trivial⟩
def aZ7:List AV->Option (Option Prop×AV×List Ob)
 | [.agg (.cons (.k (.list .q) W) (.cons (.k .q B) .nil)),.k (.list .q) x]=>some (some ((1<=W.length/\W.length<=20)/\(W.length=x.length->AnG W B x)),.eX (.cons (.k .bool (anS W B x)) (.cons (.k .q (anY W B x)) (.cons (.k (.int .i64) (anE W x)) .nil))),[])
 | _=>none
def a0X:az:=⟨31,false,aZ7⟩
def a1c (W:List Rat) ( B:Rat) (x:List Rat):bk:=⟨fun key_=>match key_ with | 8=>5 | _=>0,nL,nR,nU⟩
def aZ8 (W:List Rat) ( B:Rat) (x:List Rat):Prop:=bif !decide (erC W=(0:Int)) then On (0:Int) (0:Nat)/\false=anS W B x/\j6 (0:Int) (0:Nat)=anY W B x/\(1:Int)=anE W x else x.length<=aB ->
 W.length<=aB->bif !decide ((↑x.length:Int)=(↑W.length:Int)) then On (0:Int) (0:Nat)/\false=anS W B x/\j6 (0:Int) (0:Nat)=anY W B x/\(5:Int) =
 anE W x else (((1:Nat)<=W.length/\W.length<=(20:Nat)/\W.length=x.length)/\AnG W B x)/\Sq BQ (dW W x+B)/\decide ((0:Int)<(dW W x+B).num.sign) =
 anS W B x/\dW W x+B=anY W B x/\(0:Int)=anE W x
theorem a0S (W:List Rat) ( B:Rat) (x:List Rat):aw a1U [] (a1c W B x) Tryz.f31 (.eX (.cons (.k .bool (anS W B x)) (.cons (.k .q (anY W B x)) (.cons (.k (.int .i64) (anE W x)) .nil)))) [.agg (.cons (.k (.list .q) W) (.cons (.k .q B) .nil)),.k (.list .q) x]=aZ8 W B x:=by kernel_rfl
theorem a0T (W:List Rat) ( B:Rat) (x:List Rat) (hg:(1<=W.length/\W.length<=20)/\(W.length=x.length->AnG W B x)):aZ8 W B x:=by
 obtain ⟨h1,h2⟩:=hg;have e:erC W=0:=aV h1;unfold aZ8 anS anY anE;refine dP (fun h=>absurd e h) fun _ _ _=>dP (fun h=>?_) fun h=>?_
 ·have hn:¬W.length=x.length:=fun h3=>h (by omega);rw [aI hn,aI hn,jo hn];exact ⟨.inl rfl,rfl,fN 0,rfl⟩
 ·have hy:W.length=x.length:=by omega
  obtain ⟨h4,h5,h6,h7⟩:=h2 hy;rw [aV hy,aV hy,px hy,iQ];refine ⟨⟨⟨h1.1,h1.2,hy⟩,h4,h5,h6,h7⟩,h7,yz.2 ⟨fun h8=>aUp.1 (by omega),fun h8=>by have:=aUp.2 h8;omega⟩,rfl,rfl⟩
theorem a0U:ah (cfg []) a0X:=cf a1v bp Tryz.func31 (by kernel_rfl) fun args g r hn hc hg hf=>by
 replace hc:aZ7 args=some (g,r,hn):=hc;unfold aZ7 at hc;split at hc
 ·obtain ⟨rfl,rfl,rfl⟩:=aN hc;cases aY (a0S _ _ _) (a0T _ _ _ hg);exact ⟨rfl,by kernel_rfl,_,by assumption⟩
 ·cases hc
noncomputable def a1X:List az:=aZI::[]
theorem a1w:bd a1X:=⟨aZ6,trivial⟩
def fmAnswZ:List AV->Option (Option Prop×AV×List Ob)
 | [.agg (.cons .dv (.cons (.k .q B) .nil)),.dv]=>some (none,.eX (.cons (.k .bool false) (.cons (.k .q (0:Rat)) (.cons (.k (.int .i64) (1:Int)) .nil))),[])
 | _=>none
def a0C:az:=⟨31,false,fmAnswZ⟩
def a0V (B:Rat):bk:=⟨fun key_=>match key_ with | 8=>5 | _=>0,nL,nR,nU⟩
def a0D (B:Rat):Prop:=On (0:Int) (0:Nat)/\false=false/\j6 (0:Int) (0:Nat)=(0:Rat)/\(1:Int)=(1:Int)
theorem a0E (B:Rat):aw a1X [] (a0V B) Tryz.f31 (.eX (.cons (.k .bool false) (.cons (.k .q (0:Rat)) (.cons (.k (.int .i64) (1:Int)) .nil)))) [.agg (.cons .dv (.cons (.k .q B) .nil)),.dv]=a0D B:=by kernel_rfl
theorem a0F (B:Rat) (hf:cJ [.agg (.cons .dv (.cons (.k .q B) .nil)),.dv]):a0D B:=by exact ⟨.inl rfl,rfl,fN 0,rfl⟩
theorem a0G:ah (cfg []) a0C:=cf a1w bp Tryz.func31 (by kernel_rfl) fun args g r hn hc hg hf=>by
 replace hc:fmAnswZ args=some (g,r,hn):=hc;unfold fmAnswZ at hc;split at hc
 ·obtain ⟨rfl,rfl,rfl⟩:=aN hc;cases aY (a0E _) (a0F _ hf);exact ⟨rfl,by kernel_rfl,_,by assumption⟩
 ·cases hc
def a0H:az:=or2 a0C a0X
theorem a0I:ah (cfg []) a0H:=a1R rfl rfl rfl a0G a0U
noncomputable def a1Y:List az:=aYK::Cy::cvRowI::xV::Ap::chQ::a0H::a0Q::aT3::Nj::Ke::aa5::Wk::atK::aTG::[]
theorem a1x:bd a1Y:=⟨aYN,nJ,asN,uw,CL,Z1,a0I,aZJ,aRD,J0,z7,V5,Qx,ate,aTK,trivial⟩
noncomputable def flAnswers:List AV->Option (Option Prop×AV×List Ob)
 | [.k (.list (.int .i64)) l,.k (.list (.int .i64)) v,.k (.int .i64) s,.k (.int .i64) n,.k (.int .i64) w,.k (.int .i64) odd]=>some (some ((∀i,ax (l.getD i 0))/\(∀i,ax (v.getD i 0))/\ax s/\ax n/\ax w/\ax odd),.k .bool true,[])
 | _=>none
noncomputable def a0W:az:=⟨5,false,flAnswers⟩
noncomputable def aZ9 (l v:List Int) (s n w odd:Int):bk:=⟨fun key_=>match key_ with | 6=>9 | 10=>8 | 17=>8 | 21=>13 | 22=>14 | _=>0,fun key_=>match key_ with
 | 19=>some (⟨Nat,fun i=>[(13,.k (.list (.list .rq)) (dnM l n w)),(14,.k (.list .bool) (dnS s n 0)),(24,.k (.int .i64) (1:Int)),(25,.pt 25 0 12 0 0),(27,.pt 27 0 5 0 0),(29,.k (.int .i64) ((i:Nat):Int))],
 fun i=>[(25,.box 59 (.agg (.cons (.agg (.cons (.k (.list .q) (mfW (dnM l n w) (dnS s n 0))) (.cons (.k .q (mfB (dnM l n w) (dnS s n 0))) .nil))) (.cons (.k .q (mfD (dnM l n w) (dnS s n 0))) (.cons (.k (.list .q) (mfY (dnM l n w) (dnS s n 0))) .nil))))),(27,.box 40 (.k .q (mfD (dnM l n w) (dnS s n 0)/((2:Int):Rat))))],fun _ i=>i<=(dnM l n w).length,fun i=>(dnM l n w).length-i⟩) | _=>none,nR,nU⟩
def aA3 (l v:List Int) (s n w odd:Int)  : Prop:=
 let t1:=dnS s n (0:Int);
 let t2:=mfW (dnM l n w) t1;
 let t3:=(↑(2:Int):Rat);
 SM BQ (dnM l n w)/\(chE (dnM l n w) t1=(0:Int)->NrG (dnM l n w) t1)/\bif !decide (mfE (dnM l n w) t1=(0:Int)) then decide ((1:Int)=(1:Int))=true else
 ax (2:Int)/\(Sq BQ (mfD (dnM l n w) t1)/\Sq BQ t3)/\∃(x0:Nat),((dnM l n w=dnM l n w/\dnS s n (0:Int)=dnS s n (0:Int)/\(1:Int)=(1:Int)/\(0 :
 Int)=(↑x0:Int))/\((mfW (dnM l n w) t1=mfW (dnM l n w) t1/\mfB (dnM l n w) t1=mfB (dnM l n w) t1)/\mfD (dnM l n w) t1=mfD (dnM l n w) t1/\mfY (dnM l n w) t1
 = mfY (dnM l n w) t1)/\mfD (dnM l n w) t1/t3=mfD (dnM l n w) t1/t3)/\x0<=(dnM l n w).length/\∀(x:Nat),let u1:=(dnM l n w).getD (↑x:Int).toNat [];x <=
 (dnM l n w).length->(dnM l n w).length<=aB->bif decide ((↑x:Int)<(↑(dnM l n w).length:Int)) then ((0:Int)<=(↑x:Int)/\(↑x:Int)<(↑(dnM l n w).length :
 Int))/\SL BQ u1/\(((1:Nat)<=t2.length/\t2.length<=(20:Nat))/\(t2.length=u1.length->AnG t2 (mfB (dnM l n w) t1) u1))/\bif !decide (anE t2 u1=(0:Int))
 then false=true else ((0:Int)<=(↑x:Int)/\(↑x:Int)<(↑t1.length:Int))/\bif !anS t2 (mfB (dnM l n w) t1) u1 == t1.getD (↑x:Int).toNat false then false =
 true else Sq BQ (anY t2 (mfB (dnM l n w) t1) u1)/\(Sq BQ (apW (anY t2 (mfB (dnM l n w) t1) u1))/\Sq BQ (mfD (dnM l n w) t1/t3))/\bif decide (fS (apW (anY t2 (mfB
 (dnM l n w) t1) u1)) (mfD (dnM l n w) t1/t3)<(0:Int)) then false=true else ax ((↑x:Int)+(1:Int))/\∃(x':Nat),((dnM l n w=dnM l n w/\dnS s n (0 :
 Int)=dnS s n (0:Int)/\(1:Int)=(1:Int)/\(↑x:Int)+(1:Int)=(↑x':Int))/\((mfW (dnM l n w) t1=mfW (dnM l n w) t1/\mfB (dnM l n w) t1=mfB (dnM l n
 w) t1)/\mfD (dnM l n w) t1=mfD (dnM l n w) t1/\mfY (dnM l n w) t1=mfY (dnM l n w) t1)/\mfD (dnM l n w) t1/t3=mfD (dnM l n w) t1/t3)/\x'<=(dnM l n w).length
 /\ (dnM l n w).length-x'<(dnM l n w).length-x else decide ((1:Int)=(1:Int))=true
def aWS (l v:List Int) (s n w odd:Int):Prop:=
 let t1:=w%(3:Int)+(1:Int);
 let t2:=aA t1.toNat (cE v);
 let t3:=cutL t2 (some (1:Int)) none;
 let t4:=aA t1.toNat (cE l);
 let t5:=anY t4 (hR odd) t2;
 let t6:=anY t4 (hR odd) t3;
 ((∀(i:Nat),ax (l.getD i (0:Int)))/\ax s/\ax n/\ax w/\ax (0:Int))/\(ax w/\(0:Int)<(3:Int)/\(3:Int)<=(9223372036854775807:Int))/\ax
 t1/\((∀(i:Nat),ax (v.getD i (0:Int)))/\(0:Int)<=w%(3:Int)+(1:Int)/\w%(3:Int)+(1:Int)<=(1000000:Int))/\(ax w/\(0:Int)<(3:Int) /\
 (3:Int)<=(9223372036854775807:Int))/\ax t1/\((∀(i:Nat),ax (l.getD i (0:Int)))/\(0:Int)<=w%(3:Int)+(1:Int)/\w%(3:Int)+(1:Int) <=
 (1000000:Int))/\SL BQ t4/\ax odd/\(ax odd/\(0:Int)<(9:Int)/\(9:Int)<=(9223372036854775807:Int))/\bif decide (odd%(9:Int)=(8:Int)) then rz
 t2.length (some (1:Int)) none none/\SL BQ t3/\(((1:Nat)<=t4.length/\t4.length<=(20:Nat))/\(t4.length=t3.length->AnG t4 (hR odd) t3))/\(t3.length<=aB ->
 t4.length<=aB->bif !decide ((↑t3.length:Int)=(↑t4.length:Int)) then bif !decide (anE t4 t3=(5:Int)) then false=true else bif anS t4 (hR odd) t3 then false
 = true else Sq BQ t6/\bif !decide (t6.num.sign=(0:Int)) then false=true else aA3 l v s n w odd else SL BQ t3/\(((1:Nat)<=t4.length/\t4.length<=(20 :
 Nat)/\t4.length=t3.length)/\AnG t4 (hR odd) t3)/\bif !decide (anE t4 t3=(0:Int)) then false=true else (Sq BQ t6/\Sq BQ (dW t4 t3+hR odd))/\bif !decide
 (fS t6 (dW t4 t3+hR odd)=(0:Int)) then false=true else Sq BQ t6/\bif !anS t4 (hR odd) t3 == decide ((0:Int)<t6.num.sign) then false=true else
 aA3 l v s n w odd) else SL BQ t2/\(((1:Nat)<=t4.length/\t4.length<=(20:Nat))/\(t4.length=t2.length->AnG t4 (hR odd) t2))/\(t2.length<=aB ->
 t4.length<=aB->bif !decide ((↑t2.length:Int)=(↑t4.length:Int)) then bif !decide (anE t4 t2=(5:Int)) then false=true else bif anS t4 (hR odd) t2 then false
 = true else Sq BQ t5/\bif !decide (t5.num.sign=(0:Int)) then false=true else aA3 l v s n w odd else SL BQ t2/\(((1:Nat)<=t4.length/\t4.length<=(20 :
 Nat)/\t4.length=t2.length)/\AnG t4 (hR odd) t2)/\bif !decide (anE t4 t2=(0:Int)) then false=true else (Sq BQ t5/\Sq BQ (dW t4 t2+hR odd))/\bif !decide
 (fS t5 (dW t4 t2+hR odd)=(0:Int)) then false=true else Sq BQ t5/\bif !anS t4 (hR odd) t2 == decide ((0:Int)<t5.num.sign) then false=true else
 aA3 l v s n w odd)
theorem aZD (l v:List Int) (s n w odd:Int):aw a1Y [] (aZ9 l v s n w odd) Tryz.f5 (.k .bool true) [.k (.list (.int .i64)) l,.k (.list (.int .i64)) v,.k (.int .i64) s,.k (.int .i64) n,.k (.int .i64) w,.k (.int .i64) odd]=aWS l v s n w odd:=by kernel_rfl
theorem aZE (l v:List Int) (s n w odd:Int) (hg:(∀i,ax (l.getD i 0))/\(∀i,ax (v.getD i 0))/\ax s/\ax n/\ax w/\ax odd):aWS l v s n w odd:=by
 obtain ⟨hl,hv,hs,hn,hw,ho⟩:=hg;have hM':SM BQ (dnM l n w):=(aZV l n w).le (by unfold BQ;omega);have hN:chE (dnM l n w) (dnS s n 0)=0->NrG (dnM l n w) (dnS s n 0):=a17;have hlen:(dnM l n w).length<=7:=by rw [aXW];omega
 have last:aA3 l v s n w odd:=by
  unfold aA3;dsimp only;generalize dnS s n 0=S at *
  refine ⟨hM',hN,dP (fun _=>rfl) fun h0=>?_⟩;have hc:=a0L h0;have g:=hN hc;obtain ⟨q1,q2,q3⟩:=a2E g h0;obtain ⟨⟨⟨w1,w2⟩,w3,w4⟩,_⟩:=aUq h0;have mg:=g.mg;obtain ⟨m1,m2,m3⟩:=ba g.right;have h22:Sq 64 ((2:Int):Rat):=Sq.atH;obtain ⟨_,_,lm,O⟩:=g.aVw;have hW:mfD (dnM l n w) S=lm true+lm false:=by rw [<-w3];unfold aOu;rw [aZR];exact a1Q O
  have hD0:0<mfD (dnM l n w) S:=by
   rw [<-w3];have h1:0<=aOu (dnM l n w) S:=a14 _ S (akv _ S);have h2:aOu (dnM l n w) S≠0:=fun h3=>by unfold mfE at h0;rw [aV hc,aV h3] at h0;exact absurd h0 (by decide)
   grind
  have hdv:Sq BQ (mfD (dnM l n w) S/((2:Int):Rat)):=by rw [<-w3];exact (((aVi mg.sw mg.sw mg.lw (by omega):Sq 700000000 (aOu (dnM l n w) S))).div h22 (by decide)).le (by unfold BQ;omega)
  have e2:mfD (dnM l n w) S/((2:Int):Rat)*2=mfD (dnM l n w) S:=Gm (by decide);refine ⟨by unfold ax;omega,⟨q3,h22.le (by unfold BQ;omega)⟩,0,⟨⟨rfl,rfl,rfl,rfl⟩,⟨⟨rfl,rfl⟩,rfl,rfl⟩,rfl⟩,fi _,fun x hx hL=>aH (fun h=>?_) fun _=>rfl⟩;have pU:x<(dnM l n w).length:=by omega
  have hlw:(mfW (dnM l n w) S).length=((dnM l n w).getD x []).length:=by rw [<-w1,aVh,m3 x pU]
  have c3:=g.w3;rw [show ((x:Nat):Int).toNat=x from rfl];have Oe:Sq 700000000 (dW (mfW (dnM l n w) S) ((dnM l n w).getD x [])):=by rw [<-w1];exact aVi mg.sw (mg.sM x) mg.lw (by omega)
  have cR:Sq 2000000000 (mfB (dnM l n w) S):=by have hd:∀t,Sq 700000000 (dW (ptL (dnM l n w) S (akv (dnM l n w) S) t) (ptL (dnM l n w) S (akv (dnM l n w) S) t)):=fun t=>aVi (mg.sp t) (mg.sp t) (mg.lp t) (by omega);rw [<-w2];unfold stQ;exact (((hd false).sub (hd true)).div (k:=64) Sq.atH (by decide)).le (by omega)
  have jY:Sq BQ (dW (mfW (dnM l n w) S) ((dnM l n w).getD x [])+mfB (dnM l n w) S):=(Oe.add cR).le (by unfold BQ;omega);have hA:AnG (mfW (dnM l n w) S) (mfB (dnM l n w) S) ((dnM l n w).getD x []):=⟨by rw [<-w1];exact aSg mg.sw (mg.sM x) mg.lw (by omega),Oe.le (by unfold BQ;omega),q2,jY⟩
  have eY:anY (mfW (dnM l n w) S) (mfB (dnM l n w) S) ((dnM l n w).getD x [])=dW (mfW (dnM l n w) S) ((dnM l n w).getD x [])+mfB (dnM l n w) S:=aV hlw;have eE:anE (mfW (dnM l n w) S) ((dnM l n w).getD x [])=0:=aV hlw;have eS:anS (mfW (dnM l n w) S) (mfB (dnM l n w) S) ((dnM l n w).getD x [])=decide (0<dW (mfW (dnM l n w) S) ((dnM l n w).getD x [])+mfB (dnM l n w) S):=by unfold anS;rw [px hlw,iQ]
  have aZu:=a1p O pU;rw [w1,w2, <- hW] at aZu;rw [eY,eE,eS];have hls:S.length=(dnM l n w).length:=g.len;have hub:S.getD x false=decide (0<dW (mfW (dnM l n w) S) ((dnM l n w).getD x [])+mfB (dnM l n w) S):=by
   change ub S x=_
   cases e:ub S x with
   | true=>rw [aV e] at aZu;exact (px (by grind)).symm
   | false=>rw [aI (by rw [e];decide)] at aZu;exact (jo (by grind)).symm
  have a5W:¬fS (apW (dW (mfW (dnM l n w) S) ((dnM l n w).getD x [])+mfB (dnM l n w) S)) (mfD (dnM l n w) S/((2:Int):Rat))<0:=fun h5=>by
   have h6:=aUR.1 h5;have h7:=a1r (dW (mfW (dnM l n w) S) ((dnM l n w).getD x [])+mfB (dnM l n w) S);by_cases e:ub S x=true
   ·rw [aV e] at aZu;grind
   ·rw [aI e] at aZu;grind
  have hzero:Sq BQ (apW (dW (mfW (dnM l n w) S) ((dnM l n w).getD x [])+mfB (dnM l n w) S)):=by
   rcases a1q (dW (mfW (dnM l n w) S) ((dnM l n w).getD x [])+mfB (dnM l n w) S) with e | e
   ·rw [e];exact jY
   ·rw [e];exact jY.neg
  refine ⟨⟨by omega,h⟩,hM' x,⟨⟨by rw [hlw,m3 x pU];omega,by rw [hlw,m3 x pU];omega⟩,fun _=>hA⟩,dP (fun h5=>absurd rfl h5) fun _=>⟨⟨by omega,by rw [hls];exact h⟩,?_⟩⟩;rw [hub,beq_self_eq_true,show (!true)=false from rfl,sA];exact ⟨jY,⟨hzero,hdv⟩,aH (fun h5=>absurd h5 a5W) fun _=>⟨by unfold ax aB at *;omega,x+1,⟨⟨rfl,rfl,rfl,rfl⟩,⟨⟨rfl,rfl⟩,rfl,rfl⟩,rfl⟩,by omega,by omega⟩⟩
 have h4:∀u:List Int,SL 256 (aA (w%3+1).toNat (cE u)):=fun u=>SL.mk (fun i _=>(WT _ _).le (by omega)) (by omega);have IL:∀u:List Int,(aA (w%3+1).toNat (cE u)).length=(w%3+1).toNat:=fun u=>mX ..;have hr:Sq 256 (hR odd):=(KE odd).le (by omega);have hA:∀q:List Rat,SL 256 q->AnG (aA (w%3+1).toNat (cE l)) (hR odd) q:=fun q hq=>by have hd:Sq 700000000 (dW (aA (w%3+1).toNat (cE l)) q):=aVi (h4 l) hq (by rw [IL];omega) (by omega);exact ⟨aSg (h4 l) hq (by rw [IL];omega) (by omega),hd.le (by unfold BQ;omega),hr.le (by unfold BQ;omega),(hd.add hr).le (by unfold BQ;omega)⟩
 have bU:(1:Nat)<=(aA (w%3+1).toNat (cE l)).length/\(aA (w%3+1).toNat (cE l)).length<=20:=by rw [IL];omega
 have both:∀q:List Rat,SL 256 q->q.length<=aB->(aA (w%3+1).toNat (cE l)).length<=aB->(bif !decide (((q.length:Nat):Int)=(((aA (w%3+1).toNat (cE l)).length:Nat):Int)) then bif !decide (anE (aA (w%3+1).toNat (cE l)) q=5) then false=true else bif anS (aA (w%3+1).toNat (cE l)) (hR odd) q then false=true else Sq BQ (anY (aA (w%3+1).toNat (cE l)) (hR odd) q)/\bif !decide ((anY (aA (w%3+1).toNat (cE l)) (hR odd) q).num.sign=0) then false=true else aA3 l v s n w odd else SL BQ q/\((1<=(aA (w%3+1).toNat (cE l)).length/\(aA (w%3+1).toNat (cE l)).length<=20/\(aA (w%3+1).toNat (cE l)).length=q.length)/\AnG (aA (w%3+1).toNat (cE l)) (hR odd) q)/\bif !decide (anE (aA (w%3+1).toNat (cE l)) q=0) then false=true else (Sq BQ (anY (aA (w%3+1).toNat (cE l)) (hR odd) q)/\Sq BQ (dW (aA (w%3+1).toNat (cE l)) q+hR odd))/\bif !decide (fS (anY (aA (w%3+1).toNat (cE l)) (hR odd) q) (dW (aA (w%3+1).toNat (cE l)) q+hR odd)=0) then false=true else Sq BQ (anY (aA (w%3+1).toNat (cE l)) (hR odd) q)/\bif !anS (aA (w%3+1).toNat (cE l)) (hR odd) q == decide (0<(anY (aA (w%3+1).toNat (cE l)) (hR odd) q).num.sign) then false=true else aA3 l v s n w odd):=fun q hq _ _=>by
  have hAq:=hA q hq;generalize aA (w%3+1).toNat (cE l)=W at *
  refine dP (fun h=>?_) fun h=>?_
  ·have ay:¬W.length=q.length:=fun e=>h (by omega);have eE:anE W q=5:=aI ay;have eY:anY W (hR odd) q=0:=aI ay;have eS:anS W (hR odd) q=false:=by unfold anS;rw [jo ay];rfl
   rw [eE,eY,eS];exact dP (fun h5=>absurd rfl h5) fun _=>⟨Sq.zero _ (by unfold BQ;omega),dP (fun h5=>absurd rfl h5) fun _=>last⟩
  ·have he:W.length=q.length:=by omega
   have eE:anE W q=0:=aV he;have eY:anY W (hR odd) q=dW W q+hR odd:=aV he;have eS:anS W (hR odd) q=decide (0<dW W q+hR odd):=by unfold anS;rw [px he,iQ]
   rw [eE,eY,eS];refine ⟨hq.le (by unfold BQ;omega),⟨⟨bU.1,bU.2,he⟩,hAq⟩,dP (fun h5=>absurd rfl h5) fun _=>⟨⟨hAq.2.2.2,hAq.2.2.2⟩,dP (fun h5=>absurd (gz.2 rfl) h5) fun _=>⟨hAq.2.2.2,?_⟩⟩⟩;rw [show decide ((0:Int)<(dW W q+hR odd).num.sign)=decide (0<dW W q+hR odd) from yz.2 ⟨fun h8=>aUp.1 (by omega),fun h8=>by have:=aUp.2 h8;omega⟩,beq_self_eq_true];exact last
 have aOS:SL 256 (cutL (aA (w%3+1).toNat (cE v)) (some 1) none):=fun i=>by show Sq 256 (((aA (w%3+1).toNat (cE v)).drop 1).getD i 0);rw [show ((aA (w%3+1).toNat (cE v)).drop 1).getD i 0=(aA (w%3+1).toNat (cE v)).getD (1+i) 0 by rw [au,Af,au]];exact h4 v _
 have hB:(256:Nat)<=BQ:=by unfold BQ;omega
 unfold aWS;refine ⟨⟨hl,hs,hn,hw,by unfold ax;omega⟩,⟨hw,by omega,by omega⟩,by unfold ax;omega,⟨hv,by omega,by omega⟩,⟨hw,by omega,by omega⟩,by unfold ax;omega,⟨hl,by omega,by omega⟩,(h4 l).le hB,ho,⟨ho,by omega,by omega⟩,aH (fun h=>⟨?_,aOS.le hB,⟨bU,fun _=>hA _ aOS⟩,both _ aOS⟩) fun h=>⟨(h4 v).le hB,⟨bU,fun _=>hA _ (h4 v)⟩,both _ (h4 v)⟩⟩;rw [IL];exact ⟨by omega,by omega⟩
theorem aZG:ah (cfg []) a0W:=cf a1x bp Tryz.func5 (by kernel_rfl) fun args g r hn hc hg hf=>by
 replace hc:flAnswers args=some (g,r,hn):=hc;unfold flAnswers at hc;split at hc
 ·obtain ⟨rfl,rfl,rfl⟩:=aN hc;cases aY (aZD _ _ _ _ _ _) (aZE _ _ _ _ _ _ hg);exact ⟨rfl,by kernel_rfl,_,by assumption⟩
 ·cases hc
end Go.Proofs.YtinjjghecedkeaaGreatDoor.AM
namespace Go.Proofs.YtinjjghecedkeaaGreatDoor
open Go.ChangeShapes Go.WideShapes Go.ChangeAt Go.RowKit AM
noncomputable def aCo (os:Os):World:={ World.holding Tryz.prog os ⟨#[],#[],[]⟩ with heap:=((World.holding Tryz.prog os ⟨#[],#[],[]⟩).heap.modify 2 (OU #[.int .u8 0,.int .u8 1,.int .u8 56,.int .u8 2,.int .u8 57,.int .u8 49,.int .u8 28,.int .u8 3,.int .u8 61,.int .u8 58,.int .u8 42,.int .u8 50,.int .u8 38,.int .u8 29,.int .u8 17,.int .u8 4,.int .u8 62,.int .u8 47,.int .u8 59,.int .u8 36,.int .u8 45,.int .u8 43,.int .u8 51,.int .u8 22,.int .u8 53,.int .u8 39,.int .u8 33,.int .u8 30,.int .u8 24,.int .u8 18,.int .u8 12,.int .u8 5,.int .u8 63,.int .u8 55,.int .u8 48,.int .u8 27,.int .u8 60,.int .u8 41,.int .u8 37,.int .u8 16,.int .u8 46,.int .u8 35,.int .u8 44,.int .u8 21,.int .u8 52,.int .u8 32,.int .u8 23,.int .u8 11,.int .u8 54,.int .u8 26,.int .u8 40,.int .u8 15,.int .u8 34,.int .u8 20,.int .u8 31,.int .u8 10,.int .u8 25,.int .u8 14,.int .u8 19,.int .u8 9,.int .u8 13,.int .u8 8,.int .u8 7,.int .u8 6])) }
theorem aUF {W:World} (h:laidMetH Tryz.prog Rows.marginAnswersRow.laid W):cK W:=by
 have h1:laidMet Tryz.prog [("math/bits.deBruijn64tab",Rows.laid_math_bits_deBruijn64tab)] W:=h
 exact EU (by kernel_rfl) h1 trivial
theorem aPj (H:Type) (enc:TypeId×Value->H) (W:World) (base:Nat) (args:Array Value) (ds gs:List (DataW H)) (before:List MemPlace)
  (fV:∀(j:Nat) t v,Tryz.f5.params[j]? = some t->args[j]? = some v->Value.okWide Tryz.prog W .any base t v)
  (hW:DataW.Whole enc Tryz.prog Tryz.f5.params.toList Rows.marginAnswersSpec.vars false W args.toList ds gs before) (aan:cK W) :
  Calls Tryz.prog 5 args W fun e W'=>∃v,e = .returned v/\Rows.marginAnswersSpec.post enc Tryz.prog Tryz.f5 false true false false W args v W':=by
 have YR:=hW
 obtain ⟨p,q,hA0,hV,rfl,hfz,hnd⟩:=hW
 have hA:DataW.TrodAll enc Tryz.prog W 0 (fun _=>true) true Tryz.f5.params.toList args.toList ds p:=hA0
 rw [Tryz.params5] at hA fV
 obtain ⟨v0,vs0,d0,ds0,p0,q0,IE,rfl,rfl,h0,r0⟩:=trodAll_cons hA
 obtain ⟨v1,vs1,d1,ds1,p1,q1,rfl,rfl,rfl,h1,r1⟩:=trodAll_cons r0
 obtain ⟨v2,vs2,d2,ds2,p2,q2,rfl,rfl,rfl,h2,r2⟩:=trodAll_cons r1
 obtain ⟨v3,vs3,d3,ds3,p3,q3,rfl,rfl,rfl,h3,r3⟩:=trodAll_cons r2
 obtain ⟨v4,vs4,d4,ds4,p4,q4,rfl,rfl,rfl,h4,r4⟩:=trodAll_cons r3
 obtain ⟨v5,vs5,d5,ds5,p5,q5,rfl,rfl,rfl,h5,r5⟩:=trodAll_cons r4
 obtain ⟨rfl,rfl,rfl⟩:=trodAll_nil r5
 obtain rfl:args = #[v0,v1,v2,v3,v4,v5]:=by cases args;simp_all
 obtain ⟨rfl,rfl⟩:=trodVars_none hV
 obtain ⟨l0,s0,g0⟩:=aet Tryz.underlying22 Tryz.underlying3 (by kernel_rfl) (fV 0 22 v0 rfl rfl) h0
 obtain ⟨l1,s1,g1⟩:=aet Tryz.underlying22 Tryz.underlying3 (by kernel_rfl) (fV 1 22 v1 rfl rfl) h1
 obtain ⟨a2,rfl,rfl,rfl,w2⟩:=open_int Tryz.underlying3 (fV 2 3 v2 rfl rfl) h2
 obtain ⟨a3,rfl,rfl,rfl,w3⟩:=open_int Tryz.underlying3 (fV 3 3 v3 rfl rfl) h3
 obtain ⟨a4,rfl,rfl,rfl,w4⟩:=open_int Tryz.underlying3 (fV 4 3 v4 rfl rfl) h4
 obtain ⟨a5,rfl,rfl,rfl,w5⟩:=open_int Tryz.underlying3 (fV 5 3 v5 rfl rfl) h5
 clear hA0
 refine (Mg (args:=[.k (.list (.int .i64)) l0,.k (.list (.int .i64)) l1,.k (.int .i64) a2,.k (.int .i64) a3,.k (.int .i64) a4,.k (.int .i64) a5]) (vs:=[v0,v1,.int .i64 a2,.int .i64 a3,.int .i64 a4,.int .i64 a5]) aZG rfl ⟨g0,g1,wf_i64 w2,wf_i64 w3,wf_i64 w4,wf_i64 w5⟩ aan ⟨s0,s1,(.mkInt _ _),(.mkInt _ _),(.mkInt _ _),(.mkInt _ _),trivial⟩).mono fun e W' ⟨he,hg⟩=>?_
 subst he
 exact ⟨_,rfl,OV rfl rfl (fun t ht=>by
  rw [Tryz.params5] at ht;have bB:([22,22,3,3,3,3].all fun u=>Tryz.prog.readableRec u&&decide (u<Tryz.prog.types.size))=true:=by kernel_rfl
  have:=xY.1 bB t (by simpa using ht);simpa using this) YR ⟨rfl,rfl,rfl⟩ hg⟩
theorem aWU (os:Os):laidMet Tryz.prog Rows.marginAnswersRow.laid ((aCo os).forCall (fun _ _=>0) ⟨#[],#[.slice none 0 0,.slice none 0 0,.int .i64 0,.int .i64 0,.int .i64 0,.int .i64 0],[]⟩).memory:=laidMet_of_run' 8 (by kernel_rfl) (by kernel_rfl)
theorem aUK (os:Os) {H:Type} (enc:TypeId×Value->H):∃places,DataW.whole enc Tryz.prog ((aCo os).forCall (fun _ _=>0) ⟨#[],#[.slice none 0 0,.slice none 0 0,.int .i64 0,.int .i64 0,.int .i64 0,.int .i64 0],[]⟩).memory Tryz.f5.params.toList Rows.marginAnswersSpec.vars false (#[.slice none 0 0,.slice none 0 0,.int .i64 0,.int .i64 0,.int .i64 0,.int .i64 0]:Array Value).toList 8=some ([.nil,.nil,.lit (.int .i64 0),.lit (.int .i64 0),.lit (.int .i64 0),.lit (.int .i64 0)],[],places):=⟨[],by kernel_rfl⟩
theorem aR5 (os:Os) (started:os.Started) (H:Type) (enc:TypeId×Value->H) (F:Stop.Interp) :
  ReturnsInHanded {} Tryz.checked os 5 .any ((OpenSpec.ofChange Rows.marginAnswersSpec).preRow enc Tryz.prog Tryz.f5 Rows.marginAnswersRow.domain false Rows.marginAnswersRow.laid) (((OpenSpec.ofChange Rows.marginAnswersSpec).at F).post enc Tryz.prog Tryz.f5 false true false false):=by
 obtain ⟨places,hx⟩:=aUK os enc
 refine returnsInHanded_of_row (C:=Tryz.checked) (s:=OpenSpec.ofChange Rows.marginAnswersSpec) own started (by kernel_rfl) Tryz.func5
  (witness_row_at (enc:=enc) (C:=Tryz.checked) false (aCo os) #[.slice none 0 0,.slice none 0 0,.int .i64 0,.int .i64 0,.int .i64 0,.int .i64 0] rfl (by kernel_rfl) (by kernel_rfl) (by kernel_rfl)
   (OpenSpec.preRow_of_cond 8 hx (by kernel_rfl) (fun k hk=>by cases hk) (by kernel_rfl) (aWU os))) ?_
 intro W base args ds gs before fV hW _ _ _ hL _ _
 exact aPj H enc W base args ds gs before fV hW (aUF hL)
theorem aUL:Rows.MarginAnswersSaid:=
 OpenClaim.holds_of_cond 5 Tryz.f5 rfl rfl rfl rfl rfl rfl rfl ⟨rfl,rfl,rfl,rfl,rfl⟩ rfl rfl rfl rfl rfl (by kernel_rfl) Tryz.func5 (by kernel_rfl)
  (At (by kernel_rfl)) (by unfold Func.isWrapper;first | (rw [aV (by decide +kernel)];kernel_rfl) | (rw [aI (by decide +kernel)];exact ⟨rfl,rfl⟩))
  (fun os started H enc _ F=>by rw [OpenClaim.pre_eq_preRow];exact aR5 os started H enc F)
theorem aUM (f:FuncId) (fn:Func) (hf:Tryz.pinned.checked.prog.funcNamed "abaculus/abaculuslaw32.MarginAnswers" = some f) (hfn:Tryz.pinned.checked.prog.funcs[f]? = some fn) :
  false=Tryz.pinned.checked.prog.looks []/\∀(j:Nat) t,fn.params[j]? = some t->Tryz.pinned.checked.prog.wantsStandIn t=false:=by
 obtain rfl:f=5:=Option.some.inj ((show Tryz.prog.funcNamed "abaculus/abaculuslaw32.MarginAnswers" = some 5 by kernel_rfl).symm.trans hf) |>.symm
 obtain rfl:fn=Tryz.f5:=(Option.some.inj (Tryz.func5.symm.trans hfn)).symm
 refine ⟨by kernel_rfl,fun j t ht=>?_⟩
 rw [Tryz.params5] at ht
 have hm:t∈[22,22,3,3,3,3]:=by simpa using Array.mem_of_getElem? ht
 have bB:([22,22,3,3,3,3].all fun u=> !Tryz.prog.wantsStandIn u)=true:=by kernel_rfl
 exact (show Tryz.prog.wantsStandIn t=false by simpa using xY.1 bB t hm)
theorem marginAnswersCard_holds:Rows.MarginAnswersCardSaid:=Claim7.holds_tied_plain_at .later [] _ _ _ _ aUL (fun _ h=>by cases h) (by kernel_rfl) (fun _ h=>by cases h) marginAnswers_row_tie rfl ⟨rfl,rfl⟩ (by kernel_rfl) rfl aUM (by kernel_rfl)
#print axioms marginAnswersCard_holds
end Go.Proofs.YtinjjghecedkeaaGreatDoor
