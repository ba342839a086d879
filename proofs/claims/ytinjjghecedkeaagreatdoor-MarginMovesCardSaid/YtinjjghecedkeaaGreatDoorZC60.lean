/- all rows moved alike have a street as wide, of the same direction; all turned to the other side: the line turned round. MarginMoves, by abstract execution. (Printed by vc.py.) MarginMoves: what moved rows and exchanged sides have. The line of the widest street: what it hangs on; other orders, doubled rows, moved rows, sides exchanged. law32.drawn and MarginFits, by abstract execution. (Printed by vc.py.) MarginFits: what the steps end in; the rows that are drawn. MarginMany, by abstract execution. (Printed by vc.py.) The document's widest street, by abstract execution. (Printed by vc.py.) margin.Same, Joins, Meet, Proof, by abstract execution. (Printed by vc.py.) margin.Fit, Same; chapter 32's known example; the document's errors; by abstract execution. (Printed by vc.py.) The document's lines of least squares, by abstract execution. (Printed by vc.py.) The document's determinants and inverses, by abstract execution. (Printed by vc.py.) elim.Det: determinants by elimination, by abstract execution. (Printed by vc.py.) The document's reduced forms, kernels, solutions, by abstract execution. (Printed by vc.py.) Chapter 12's statements: the line of least squares, by abstract execution. (Printed by vc.py.) Least squares: what a fitted line is. -/
import Derived.Test.YtinjjghecedkeaaGreatDoorCards
import Derived.Test.YtinjjghecedkeaaGreatDoorBd12
set_option maxRecDepth 100000
set_option linter.unusedVariables false
set_option linter.unusedSimpArgs false
set_option maxHeartbeats 1000000
namespace Go.Proofs.YtinjjghecedkeaaGreatDoor.AM
section
variable {x:List (List Rat)} {y:List Rat} {r:Rat}
end
open Go.RowKit
def cvRowsI:az:=⟨57,false,fun args=>match args with
 | [.k (.list (.int .i64)) l,.k (.int .i64) n,.k (.int .i64) m]=>some (some ((∀i,ax (l.getD i 0))/\((0:Int)<=n/\n<=1000000)/\(0:Int)<=m/\m<=1000000),.k (.list (.list .rq)) (aG n.toNat m.toNat fun i j=>cE l (i*m.toNat+j)),[])
 | _=>none⟩
theorem asq:ah (cfg []) cvRowsI:=ly agI fun args g r hn hc hg=>by
 split at hc
 ·rename_i l n m;obtain ⟨rfl,rfl,rfl⟩:=aN hc;obtain ⟨h1,⟨h2,h3⟩,h4,h5⟩:=hg;have h2 : @LE.le Int _ 0 n:=h2;have h3 : @LE.le Int _ n 1000000:=h3;have h4 : @LE.le Int _ 0 m:=h4;have h5 : @LE.le Int _ m 1000000:=h5;obtain ⟨a,rfl⟩:=Ay h2;obtain ⟨b,rfl⟩:=Ay h4;exact ⟨_,rfl,h1,by omega,by omega⟩
 ·cases hc
def cvRowI:az:=⟨26,false,fun args=>match args with
 | [.k (.list (.int .i64)) l,.k (.int .i64) n]=>some (some ((∀i,ax (l.getD i 0))/\(0:Int)<=n/\n<=1000000),.k (.list .rq) (aA n.toNat (cE l)),[])
 | _=>none⟩
theorem asN:ah (cfg []) cvRowI:=ly ahA fun args g r hn hc hg=>by
 split at hc
 ·rename_i l n;obtain ⟨rfl,rfl,rfl⟩:=aN hc;obtain ⟨h1,h2,h3⟩:=hg;have h2 : @LE.le Int _ 0 n:=h2;have h3 : @LE.le Int _ n 1000000:=h3;obtain ⟨a,rfl⟩:=Ay h2;exact ⟨_,rfl,h1,by omega⟩
 ·cases hc
theorem arz {a:Int} (h:ax a):Sq 256 (a:Rat):=(Sq.int (k:=64) (Sm.lit (by unfold ax at h;omega)) (by omega)).le (by omega)
theorem asO {a:Int} (h:ax a):SL 256 [(a:Rat)]:=fun i=>match i with
 | 0=>arz h
 | _+1=>Sq.zero _ (by omega)
def SzQ (M:LM) (k:Nat) (x:Rat):Prop:=∀s,1<=s->SM s M->Sq (s*5^k) x
structure DI (M:LM) (k:Nat) (d:Rat) (F:Nat->Nat->Rat):Prop where
 det:acb M.length (el M) k d F
 szF:∀i j,SzQ M k (F i j)
 szD:SzQ M k d
section
variable {x:List (List Rat)} {y:List Rat} {r:Rat}
end
theorem aTF {x:Rat}:x.num.sign=0↔x=0:=by
 constructor
 ·intro h;have h1:¬x<0:=fun h2=>by have:=aO0.2 h2;omega
  have h3:¬0<x:=fun h2=>by have:=aUp.2 h2;omega
  grind
 ·intro h;rw [h];rfl
theorem NrG.aVw {M:List (List Rat)} {is:List Bool} (h:NrG M is):(akv M is).length=M.length/\HdW M.length (al M) (vMg M is) (ub is) (cw (akv M is))/\∃lm,OpW M.length (al M) (vMg M is) (ub is) (cw (akv M is)) lm:=by have S:=h.start;obtain ⟨a1,a2,a3⟩:=aSe (muW M.length (al M) (vMg M is) (ub is) (cw (stP is M.length 2))+1) S.lb S.hd (tR _);obtain ⟨lm,b1,_⟩:=aVW S.lb S.hd;have e:outL M.length (al M) (vMg M is) (ub is) (muW M.length (al M) (vMg M is) (ub is) (cw (stP is M.length 2))+1) (stP is M.length 2)=akv M is:=S.en;rw [e] at a1 a2;rw [S.en] at b1;exact ⟨a2,a1,lm,b1⟩
theorem NrG.mg {M:List (List Rat)} {is:List Bool} (h:NrG M is):MgG M is (akv M is):=by obtain ⟨a1,a2,_⟩:=h.aVw;exact ⟨h.right,h.len,h.n24,h.w3,h.sM,a1,(h.hd a1 a2).le (by unfold GB;omega)⟩
noncomputable def aOu (M:List (List Rat)) (is:List Bool):Rat:=dW (wyL M is (akv M is)) (wyL M is (akv M is))
noncomputable def mfE (M:List (List Rat)) (is:List Bool):Int:=if chE M is=0 then (if aOu M is=0 then 8 else 0) else chE M is
noncomputable def mfW (M:List (List Rat)) (is:List Bool):List Rat:=if mfE M is=0 then wyL M is (akv M is) else []
noncomputable def mfB (M:List (List Rat)) (is:List Bool):Rat:=if mfE M is=0 then stQ M is (akv M is) else 0
noncomputable def mfD (M:List (List Rat)) (is:List Bool):Rat:=if mfE M is=0 then aOu M is else 0
noncomputable def mfY (M:List (List Rat)) (is:List Bool):List Rat:=if mfE M is=0 then akv M is else []
theorem aVx {M:List (List Rat)} {is:List Bool} {e:Int} (h:mfE M is=e) (h0:e≠0):((mfW M is=[]/\0=mfB M is)/\0=mfD M is/\mfY M is=[])/\e=mfE M is:=by
 have hn:¬mfE M is=0:=by rw [h];exact h0
 unfold mfW mfB mfD mfY;rw [aI hn,aI hn,aI hn,aI hn];exact ⟨⟨⟨rfl,rfl⟩,rfl,rfl⟩,h.symm⟩
theorem aUq {M:List (List Rat)} {is:List Bool} (h:mfE M is=0):((wyL M is (akv M is)=mfW M is/\stQ M is (akv M is)=mfB M is)/\aOu M is=mfD M is/\akv M is=mfY M is)/\0=mfE M is:=by unfold mfW mfB mfD mfY;rw [aV h,aV h,aV h,aV h];exact ⟨⟨⟨rfl,rfl⟩,rfl,rfl⟩,h.symm⟩
noncomputable def LJ6:List az:=aTd::aQS::aRB::Nj::[]
theorem aV7:bd LJ6:=⟨aTz,aRt,aSp,J0,trivial⟩
noncomputable def fmFit:List AV->Option (Option Prop×AV×List Ob)
 | [.k (.list (.list .q)) M,.k (.list .bool) is]=>some (some (chE M is=0->NrG M is),T2 (.agg (.cons (.agg (.cons (.k (.list .q) (mfW M is)) (.cons (.k .q (mfB M is)) .nil))) (.cons (.k .q (mfD M is)) (.cons (.k (.list .q) (mfY M is)) .nil)))) (.k (.int .i64) (mfE M is)),[])
 | _=>none
noncomputable def aT3:az:=⟨25,false,fmFit⟩
noncomputable def aVy (M:List (List Rat)) (is:List Bool):bk:=⟨nU,nL,nR,nU⟩
def aT4 (M:List (List Rat)) (is:List Bool):Prop:=
 let t1:=wyL M is (akv M is);
 bif !decide (chE M is=(0:Int)) then ((mfW M is=[]/\(0:Rat)=mfB M is)/\(0:Rat)=mfD M is/\mfY M is=[])/\chE M is=mfE M is else NrG M is/\MgG M is
 (akv M is)/\Sq BQ (dW t1 t1)/\bif decide ((dW t1 t1).num.sign=(0:Int)) then ((mfW M is=[]/\(0:Rat)=mfB M is)/\(0:Rat)=mfD M is/\mfY M is=[]) /\
 (8:Int)=mfE M is else ((wyL M is (akv M is)=mfW M is/\stQ M is (akv M is)=mfB M is)/\dW t1 t1=mfD M is/\akv M is=mfY M is)/\(0:Int)=mfE M is
theorem aUH (M:List (List Rat)) (is:List Bool):aw LJ6 [] (aVy M is) Tryz.f25 (T2 (.agg (.cons (.agg (.cons (.k (.list .q) (mfW M is)) (.cons (.k .q (mfB M is)) .nil))) (.cons (.k .q (mfD M is)) (.cons (.k (.list .q) (mfY M is)) .nil)))) (.k (.int .i64) (mfE M is))) [.k (.list (.list .q)) M,.k (.list .bool) is]=aT4 M is:=by kernel_rfl
theorem aUI (M:List (List Rat)) (is:List Bool) (hg:chE M is=0->NrG M is):aT4 M is:=by
 unfold aT4;dsimp only;refine dP (fun h=>aVx (aI h) h) fun h=>?_
 have g:=hg h;have hd:Sq 700000000 (dW (wyL M is (akv M is)) (wyL M is (akv M is))):=aVi g.mg.sw g.mg.sw g.mg.lw (by omega);refine ⟨g,g.mg,hd.le (by unfold BQ;omega),aH (fun h2=>?_) fun h2=>?_⟩
 ·have e:mfE M is=8:=by
   unfold mfE;rw [aV h];exact aV (aTF.1 h2)
  exact aVx e (by decide)
 ·have e:mfE M is=0:=by
   unfold mfE;rw [aV h];exact aI fun h3=>h2 (aTF.2 h3)
  exact aUq e
theorem aRD:ah (cfg []) aT3:=cf aV7 bp Tryz.func25 (by kernel_rfl) fun args g r hn hc hg hf=>by
 replace hc:fmFit args=some (g,r,hn):=hc;unfold fmFit at hc;split at hc
 ·obtain ⟨rfl,rfl,rfl⟩:=aN hc;cases aY (aUH _ _) (aUI _ _ hg);exact ⟨rfl,by kernel_rfl,_,by assumption⟩
 ·cases hc
def knM:List (List Rat):=[[((0:Int):Rat)],[((2:Int):Rat)]]
def knS:List Bool:=[false,true]
theorem aXY:chE knM knS=0:=by
 have h1:Shp knM knS:=⟨rfl,by decide,by decide,rfl⟩
 unfold chE;rw [aV h1,aI (by decide)];exact aI fun h=>absurd (h 1 (by decide)) (by decide)
theorem aVz:NrG knM knS:=by
 have i0:ax 0:=by unfold ax;omega
 have i2:ax 2:=by unfold ax;omega
 refine ⟨rfl,rfl,by decide,by decide,fun i=>match i with
  | 0=>asO i0
  | 1=>asO i2
  | _+2=>SL.nil (by omega),fun i j=>match i,j with
  | 0,0=>⟨0,by decide,by kernel_rfl⟩
  | 0,_+1=>⟨0,by decide,by kernel_rfl⟩
  | 1,0=>⟨24,by decide,by kernel_rfl⟩
  | 1,_+1=>⟨0,by decide,by kernel_rfl⟩
  | _+2,_=>⟨0,by decide,by kernel_rfl⟩,fun t=>match t with
  | true=>⟨1,by decide,rfl⟩
  | false=>⟨0,by decide,rfl⟩⟩
theorem aV8:cw (akv knM knS) 0=1/\cw (akv knM knS) 1=1:=by obtain ⟨_,_,lm,h⟩:=aVz.aVw;have h0:0+(if ub knS 0=false then cw (akv knM knS) 0 else 0)+(if ub knS 1=false then cw (akv knM knS) 1 else 0)=1:=h.sum false;have h1:0+(if ub knS 0=true then cw (akv knM knS) 0 else 0)+(if ub knS 1=true then cw (akv knM knS) 1 else 0)=1:=h.sum true;rw [aV (show ub knS 0=false from rfl),aI (show ¬ub knS 1=false by decide)] at h0;rw [aI (show ¬ub knS 0=true by decide),aV (show ub knS 1=true from rfl)] at h1;exact ⟨by grind,by grind⟩
theorem aVA:ptS knM knS (akv knM knS) true 2 0=2/\ptS knM knS (akv knM knS) false 2 0=0:=by
 obtain ⟨h0,h1⟩:=aV8;have e0:el knM 0 0=0:=by kernel_rfl
 have e1:el knM 1 0=2:=by kernel_rfl
 constructor
 ·show 0+(if ub knS 0=true then el knM 0 0*cw (akv knM knS) 0 else 0)+(if ub knS 1=true then el knM 1 0*cw (akv knM knS) 1 else 0)=2;rw [aI (show ¬ub knS 0=true by decide),aV (show ub knS 1=true from rfl),h1,e1];grind
 ·show 0+(if ub knS 0=false then el knM 0 0*cw (akv knM knS) 0 else 0)+(if ub knS 1=false then el knM 1 0*cw (akv knM knS) 1 else 0)=0;rw [aV (show ub knS 0=false from rfl),aI (show ¬ub knS 1=false by decide),h0,e0];grind
theorem aVB (t:Bool):ptL knM knS (akv knM knS) t=[ptS knM knS (akv knM knS) t 2 0]:=rfl
theorem aVC:wyL knM knS (akv knM knS)=[2]:=by obtain ⟨h0,h1⟩:=aVA;have e:wyL knM knS (akv knM knS)=[ptS knM knS (akv knM knS) true 2 0-ptS knM knS (akv knM knS) false 2 0]:=rfl;rw [e,h0,h1];congr 1;grind
theorem aV9:mfE knM knS=0/\mfW knM knS=[2]/\mfB knM knS = -2/\mfD knM knS=4:=by
 have hd:aOu knM knS=4:=by unfold aOu;rw [aVC];kernel_rfl
 have he:mfE knM knS=0:=by unfold mfE;rw [aV aXY,hd];exact aI (by decide)
 obtain ⟨⟨⟨a1,a2⟩,a3,_⟩,_⟩:=aUq he;refine ⟨he,by rw [<-a1];exact aVC,?_,by rw [<-a3];exact hd⟩;rw [<-a2];unfold stQ;obtain ⟨h0,h1⟩:=aVA;rw [aVB,aVB,h0,h1];kernel_rfl
noncomputable def LJ7:List az:=aa5::aa9::aT3::[]
theorem aWa:bd LJ7:=⟨V5,WS,aRD,trivial⟩
def fmKnown:List AV->Option (Option Prop×AV×List Ob)
 | []=>some (none,.k .bool true,[])
 | _=>none
def aTG:az:=⟨29,false,fmKnown⟩
def aT5  : bk:=⟨nU,nL,nR,nU⟩
def aQT  : Prop:=
 let t1:=mfW [[(↑(0:Int):Rat)],[(↑(2:Int):Rat)]] [false,true];
 ax (0:Int)/\ax (2:Int)/\(chE [[(↑(0:Int):Rat)],[(↑(2:Int):Rat)]] [false,true]=(0:Int)->NrG [[(↑(0:Int):Rat)],[(↑(2:Int):Rat)]] [false,
 true])/\(t1.length<=aB->((0:Int)<=(0:Int)/\(0:Int)<(↑t1.length:Int))/\(Sq BQ (t1.getD (Int.toNat (0:Int)) (0:Rat))/\ax (2:Int)/\ax (1:Int)
 /\ (1:Int)≠(0:Int))/\(Sq BQ (mfB [[(↑(0:Int):Rat)],[(↑(2:Int):Rat)]] [false,true])/\ax (-2:Int)/\ax (1:Int)/\(1:Int)≠(0:Int))/\(Sq BQ
 (mfD [[(↑(0:Int):Rat)],[(↑(2:Int):Rat)]] [false,true])/\ax (4:Int)/\ax (1:Int)/\(1:Int)≠(0:Int))/\decide (mfD [[(↑(0:Int):Rat)],[(↑(2 :
 Int):Rat)]] [false,true]=(↑(4:Int):Rat)/(↑(1:Int):Rat))=true)
theorem aTH  : aw LJ7 [] (aT5 ) Tryz.f29 (.k .bool true) []=aQT  :=by kernel_rfl
theorem aTJ  (hf:cJ []):aQT  :=by
 obtain ⟨e0,e1,e2,e3⟩:=aV9;have i0:ax 0:=by unfold ax;omega
 have i1:ax 1:=by unfold ax;omega
 have i2:ax 2:=by unfold ax;omega
 have im:ax (-2):=by unfold ax;omega
 have i4:ax 4:=by unfold ax;omega
 have hB:(256:Nat)<=BQ:=by unfold BQ;omega
 unfold aQT;dsimp only;change ax 0/\ax 2/\(chE knM knS=0->NrG knM knS)/\((mfW knM knS).length<=aB->(_/\(0:Int)<((mfW knM knS).length:Int))/\(Sq BQ ((mfW knM knS).getD _ 0)/\_)/\(Sq BQ (mfB knM knS)/\_)/\(Sq BQ (mfD knM knS)/\_)/\decide (mfD knM knS=_)=true)
 rw [e1,e2,e3];exact ⟨i0,i2,fun _=>aVz,fun _=>⟨⟨by omega,by decide⟩,⟨(arz i2).le hB,i2,i1,by decide⟩,⟨(arz im).le hB,im,i1,by decide⟩,⟨(arz i4).le hB,i4,i1,by decide⟩,by kernel_rfl⟩⟩
theorem aTK:ah (cfg []) aTG:=cf aWa bp Tryz.func29 (by kernel_rfl) fun args g r hn hc hg hf=>by
 replace hc:fmKnown args=some (g,r,hn):=hc;unfold fmKnown at hc;split at hc
 ·obtain ⟨rfl,rfl,rfl⟩:=aN hc;cases aY (aTH ) (aTJ  hf);exact ⟨rfl,by kernel_rfl,_,by assumption⟩
 ·cases hc
def PrP (M:List (List Rat)) (is:List Bool) (W:List Rat) (B D:Rat) (Y:List Rat):Prop:=WtP Y is/\W=wyL M is Y/\B=stQ M is Y/\D=dW (wyL M is Y) (wyL M is Y)/\0<D/\∀i,i<M.length->aGr M is Y i=false
instance (M:List (List Rat)) (is:List Bool) (W:List Rat) (B D:Rat) (Y:List Rat):Decidable (PrP M is W B D Y):=by unfold PrP;infer_instance
def PrC (M:List (List Rat)) (is:List Bool) (W:List Rat) (B D:Rat) (Y:List Rat):Prop:=chE M is=0/\PrP M is W B D Y
instance (M:List (List Rat)) (is:List Bool) (W:List Rat) (B D:Rat) (Y:List Rat):Decidable (PrC M is W B D Y):=by unfold PrC;infer_instance
def SlP (W V:List Rat) (B A:Rat):Prop:=W=V/\B=A
instance (W V:List Rat) (B A:Rat):Decidable (SlP W V B A):=by unfold SlP;infer_instance
def SmP (W V:List Rat) (B A D E:Rat):Prop:=W=V/\B=A/\D=E
instance (W V:List Rat) (B A D E:Rat):Decidable (SmP W V B A D E):=by unfold SmP;infer_instance
structure NyG (M:List (List Rat)) (is:List Bool) (b:List Rat):Prop where
 nr:chE M is=0->NrG M is
 n24:b.length<=24
 sb:SL GB b
theorem aVD {M:List (List Rat)} {is:List Bool} (h:chE M is=0):Shp M is/\M.length<=24/\∀t,∃i,i<M.length/\ub is i=t:=by
 unfold chE at h;by_cases h1:Shp M is
 ·rw [aV h1] at h;by_cases h2:24<M.length
  ·rw [aV h2] at h;exact absurd h (by decide)
  ·rw [aI h2] at h;refine ⟨h1,by omega,fun t=>?_⟩;unfold chI at h;by_cases h3:∀i,i<is.length->ub is i=ub is 0
   ·rw [aV h3] at h;exact absurd h (by decide)
   ·obtain ⟨i,hi⟩:=F3.1 h3;obtain ⟨h4,h5⟩:=Classical.not_imp.1 hi;have hl:=h1.2.2.2;by_cases h6:ub is 0=t
    ·exact ⟨0,by omega,h6⟩
    ·refine ⟨i,by omega,?_⟩
     cases h7:ub is i <;> cases h8:ub is 0 <;> cases t <;> simp_all
 ·rw [aI h1] at h;exact absurd h (by decide)
section
variable {M:List (List Rat)} {is:List Bool}
end
theorem a16 (n:Int):∃z:Int,z.natAbs<256/\hR n*12=(z:Rat):=by
 have hm:0<=n%41/\n%41<41:=⟨Int.emod_nonneg _ (by omega),Int.emod_lt_of_pos _ (by omega)⟩
 have key:∀d k:Int,(d:Rat)≠0->d*k=12->0<=k->k<=12->∃z:Int,z.natAbs<256/\((n%41-20:Int):Rat)/(d:Rat)*12=(z:Rat):=fun d k h0 e k0 k1=>by
  refine ⟨(n%41-20)*k,?_,?_⟩
  ·rw [yz];have h1:(n%41-20).natAbs<=20:=by omega
   have h2:k.natAbs<=12:=by omega
   have:=yc h1 h2;omega
  ·rw [show (12:Rat)=((12:Int):Rat) from rfl, <- e,KK,KK, <- Rat.mul_assoc,Rat.div_mul_cancel h0]
 unfold hR dd;by_cases h3:n.tdiv 41%6=3
 ·rw [aV h3];exact key 2 6 (by decide) (by decide) (by decide) (by decide)
 ·rw [aI h3];by_cases h4:n.tdiv 41%6=4
  ·rw [aV h4];exact key 3 4 (by decide) (by decide) (by decide) (by decide)
  ·rw [aI h4];by_cases h5:n.tdiv 41%6=5
   ·rw [aV h5];exact key 4 3 (by decide) (by decide) (by decide) (by decide)
   ·rw [aI h5];exact key 1 12 (by decide) (by decide) (by decide) (by decide)
theorem aZU (l:List Int) (i:Nat):∃z:Int,z.natAbs<256/\cE l i*12=(z:Rat):=by
 unfold cE;split
 ·exact a16 _
 ·exact ⟨0,by decide,by rw [vv];rfl⟩
def dnM (l:List Int) (n w:Int):List (List Rat):=aG (n%8).toNat (w%3+1).toNat fun i j=>cE l (i*(w%3+1).toNat+j)
theorem aXW (l:List Int) (n w:Int):(dnM l n w).length=(n%8).toNat:=ab9 ..
theorem aZV (l:List Int) (n w:Int):SM 256 (dnM l n w):=fun i=>by
 by_cases hi:i<(n%8).toNat
 ·unfold dnM;rw [na hi];exact SL.mk (fun _ _=>(WT _ _).le (by omega)) (by omega)
 ·rw [mZ (by rw [aXW];omega)];exact SL.nil (by omega)
theorem a17 {l:List Int} {n w:Int} {is:List Bool} (h:chE (dnM l n w) is=0):NrG (dnM l n w) is:=by
 obtain ⟨h1,h2,h3⟩:=aVD h;have hp:0<(n%8).toNat:=by have:=(ba h1.1).1;rw [aXW] at this;exact this
 refine ⟨h1.1,h1.2.2.2,h2,?_,aZV l n w,fun i j=>?_,h3⟩
 ·unfold dnM;rw [tM hp];omega
 ·by_cases hi:i<(n%8).toNat
  ·by_cases hj:j<(w%3+1).toNat
   ·unfold dnM;rw [Ny hi hj];obtain ⟨z,z1,z2⟩:=aZU l (i*(w%3+1).toNat+j);exact ⟨z,by omega,z2⟩
   ·refine ⟨0,by decide,?_⟩;have e:el (dnM l n w) i j=0:=by
     unfold dnM el;rw [na hi,ss (by omega)]
    rw [e,vv];rfl
  ·refine ⟨0,by decide,?_⟩;have e:el (dnM l n w) i j=0:=by
    unfold el;rw [mZ (xs:=dnM l n w) (by rw [aXW];omega)];rfl
   rw [e,vv];rfl
def sdI (s:Int) (i:Nat):Bool:=decide (aZc .i64 (aZd .i64 s (IntKind.u64.wrap (((i:Nat):Int).tmod 60))) 1=1)
def dnN (n odd:Int):Nat:=(n%8).toNat+if odd%12=11 then 1 else 0
def dnS (s n odd:Int):List Bool:=aA (dnN n odd) (sdI s)
noncomputable def a0l:List az:=Cy::cvRowsI::[]
theorem aZX:bd a0l:=⟨nJ,asq,trivial⟩
def flDrawn:List AV->Option (Option Prop×AV×List Ob)
 | [.k (.list (.int .i64)) l,.k (.int .i64) s,.k (.int .i64) n,.k (.int .i64) w,.k (.int .i64) odd]=>some (some ((∀i,ax (l.getD i 0))/\ax s/\ax n/\ax w/\ax odd),T2 (.k (.list (.list .rq)) (dnM l n w)) (.k (.list .bool) (dnS s n odd)),[])
 | _=>none
def aYK:az:=⟨24,false,flDrawn⟩
def aY8 (l:List Int) (s n w odd:Int):bk:=⟨nU,fun key_=>match key_ with
 | 7=>some (⟨Nat,fun i=>[(1,.k (.int .i64) s),(2,.k (.int .i64) ((dnN n odd:Nat):Int)),(12,.k (.list (.list .rq)) (dnM l n w)),(13,.own 13 0 1),(14,.k (.int .i64) ((i:Nat):Int))],
 fun i=>[(13,.arr 4 .bool (aA i (sdI s)))],
 fun _ i=>i<=dnN n odd,fun i=>dnN n odd-i⟩) | _=>none,nR,nU⟩
def aPS (l:List Int) (s n w odd:Int) (x:Nat):Prop:=bif decide ((↑x:Int)<(↑(dnN n odd):Int)) then (60:Int)≠(0:Int)/\(0:Int)<=IntKind.u64.wrap ((↑x:Int).tmod (60:Int))/\(aA x (sdI s)).length+[decide
 (aZc IntKind.i64 (aZd IntKind.i64 s (IntKind.u64.wrap ((↑x:Int).tmod (60:Int)))) (1:Int)=(1:Int))].length<=aB/\ax ((↑x:Int)+(1:Int))/\∃(x' :
 Nat),((s=s/\(↑(dnN n odd):Int)=(↑(dnN n odd):Int)/\dnM l n w=dnM l n w/\(↑x:Int)+(1:Int)=(↑x':Int))/\(aA x (sdI s)).append [decide (aZc
 IntKind.i64 (aZd IntKind.i64 s (IntKind.u64.wrap ((↑x:Int).tmod (60:Int)))) (1:Int)=(1:Int))]=aA x' (sdI s))/\x'<=dnN n odd/\dnN n odd-x'<dnN n odd -
 x else dnM l n w=dnM l n w/\aA x (sdI s)=dnS s n odd
def aXr (l:List Int) (s n w odd:Int):Prop:=
 let t1:=aG (n%(8:Int)).toNat (w%(3:Int)+(1:Int)).toNat fun (i j:Nat)=>cE l (i*(w%(3:Int)+(1:Int)).toNat+j);
 (ax n/\(0:Int)<(8:Int)/\(8:Int)<=(9223372036854775807:Int))/\(ax w/\(0:Int)<(3:Int)/\(3:Int)<=(9223372036854775807:Int))/\ax (w%(3 :
 Int)+(1:Int))/\((∀(i:Nat),ax (l.getD i (0:Int)))/\((0:Int)<=n%(8:Int)/\n%(8:Int)<=(1000000:Int))/\(0:Int)<=w%(3:Int)+(1:Int)/\w
 % (3:Int)+(1:Int)<=(1000000:Int))/\(ax odd/\(0:Int)<(12:Int)/\(12:Int)<=(9223372036854775807:Int))/\bif decide (odd%(12:Int)=(11:Int))
 then ax (n%(8:Int)+(1:Int))/\∃(x0:Nat),((s=s/\n%(8:Int)+(1:Int)=(↑(dnN n odd):Int)/\t1=dnM l n w/\(0:Int)=(↑x0:Int))/\aA x0 (sdI
 s)=[])/\x0<=dnN n odd/\∀(x:Nat),x<=dnN n odd->aPS l s n w odd x else ∃(x0:Nat),((s=s/\n%(8:Int)=(↑(dnN n odd):Int)/\t1=dnM l n w/\(0 :
 Int)=(↑x0:Int))/\aA x0 (sdI s)=[])/\x0<=dnN n odd/\∀(x:Nat),x<=dnN n odd->aPS l s n w odd x
theorem aYL (l:List Int) (s n w odd:Int):aw a0l [] (aY8 l s n w odd) Tryz.f24 (T2 (.k (.list (.list .rq)) (dnM l n w)) (.k (.list .bool) (dnS s n odd))) [.k (.list (.int .i64)) l,.k (.int .i64) s,.k (.int .i64) n,.k (.int .i64) w,.k (.int .i64) odd]=aXr l s n w odd:=by kernel_rfl
theorem aYM (l:List Int) (s n w odd:Int) (hg:(∀i,ax (l.getD i 0))/\ax s/\ax n/\ax w/\ax odd):aXr l s n w odd:=by
 obtain ⟨hl,hs,hn,hw,ho⟩:=hg;have key:∀x,x<=dnN n odd->aPS l s n w odd x:=fun x hx=>by
  unfold aPS;have hN:dnN n odd<=9:=by unfold dnN;split <;> omega
  have e0:0<=IntKind.u64.wrap (((x:Nat):Int).tmod 60):=by rw [IntKind.wrap_u64];omega
  refine aH (fun h=>?_) fun h=>?_
  ·refine ⟨by decide,e0,by rw [mX];show x+1<=aB;unfold aB;omega,by unfold ax;omega,x+1,⟨⟨rfl,rfl,rfl,rfl⟩,(tI x (sdI s)).symm⟩,by omega,by omega⟩
  ·exact ⟨rfl,by rw [show x=dnN n odd by omega];rfl⟩
 unfold aXr;have h2:dnM l n w=aG (n%8).toNat (w%3+1).toNat fun i j=>cE l (i*(w%3+1).toNat+j):=rfl
 refine ⟨⟨hn,by omega,by omega⟩,⟨hw,by omega,by omega⟩,by unfold ax;omega,⟨hl,⟨by omega,by omega⟩,by omega,by omega⟩,⟨ho,by omega,by omega⟩,aH (fun h=>⟨by unfold ax;omega,0,⟨⟨rfl,?_,rfl,rfl⟩,rfl⟩,fi _,key⟩) fun h=>⟨0,⟨⟨rfl,?_,rfl,rfl⟩,rfl⟩,fi _,key⟩⟩
 ·unfold dnN;rw [aV h];omega
 ·unfold dnN;rw [aI h];omega
theorem aYN:ah (cfg []) aYK:=cf aZX bp Tryz.func24 (by kernel_rfl) fun args g r hn hc hg hf=>by
 replace hc:flDrawn args=some (g,r,hn):=hc;unfold flDrawn at hc;split at hc
 ·obtain ⟨rfl,rfl,rfl⟩:=aN hc;cases aY (aYL _ _ _ _ _) (aYM _ _ _ _ _ hg);exact ⟨rfl,by kernel_rfl,_,by assumption⟩
 ·cases hc
section
variable {n w:Nat} {v:Nat->Nat->Rat} {s:Nat->Bool} {b b':Nat->Rat} {lm lm':Bool->Rat}
theorem OpW.hi (h:OpW n w v s b lm) (t:Bool):hiW n w v s b t=lm t:=by
 have e:hiW n w v s b t=sumN (fun i=>lm t*(if s i=t then b i else 0)) n:=uv fun i hi=>by
  by_cases ht:s i=t
  ·rw [aV ht,aV ht];by_cases hp:0<b i
   ·rw [h.act i hi hp,ht,yZ]
   ·have:b i=0:=by have:=h.nn i hi;grind
    rw [this,vv,GF]
  ·rw [aI ht,aI ht,GF]
 have h2:=h.sum t;unfold sdS at h2;rw [e,abC,h2,KJ]
theorem OpW.ex (h:OpW n w v s b lm) (t:Bool):∃i,i<n/\s i=t/\0<b i:=yT fun hn=>by
 have h1:sdS n s t b=0:=acj fun i hi=>by
  by_cases e:s i=t
  ·rw [aV e];have h2:=h.nn i hi;have h3:¬0<b i:=fun h4=>hn ⟨i,hi,e,h4⟩;grind
  ·rw [aI e]
 rw [h.sum] at h1;grind
theorem aZ1 (e:∀j,j<w->dMg n v b j=dMg n v b' j) (i:Nat):gMg n w v b i=gMg n w v b' i:=uv fun j hj=>by rw [e j hj]
theorem OpW.a0f (h:OpW n w v s b lm) (h':OpW n w v s b' lm') (e:∀j,j<w->dMg n v b j=dMg n v b' j) (t:Bool):lm' t<=lm t:=by obtain ⟨i,hi,hs,hp⟩:=h.ex t;have h1:=h.act i hi hp;have h2:=h'.all i hi;rw [hs] at h1 h2;rw [<-aZ1 e i,h1] at h2;exact h2
theorem OpW.a0n (h:OpW n w v s b lm) (h':OpW n w v s b' lm') (t:Bool):lm t=lm' t:=by have e:=h'.uniq h;exact Rat.le_antisymm (h'.a0f h (fun j hj=>(e j hj).symm) t) (h.a0f h' e t)
theorem OpW.move {v':Nat->Nat->Rat} {δ:Nat->Rat} (h:OpW n w v s b lm) (hv:∀i,i<n->∀j,j<w->v' i j=v i j+(if s i=true then δ j else -(δ j))) :
  (∀j,j<w->dMg n v' b j=dMg n v b j)/\∃mu,OpW n w v' s b mu:=by
 have hd:∀j,j<w->dMg n v' b j=dMg n v b j:=fun j hj=>by
  have e1:dMg n v' b j=dMg n v b j+sumN (fun i=>b i*(fun t=>if t=true then δ j else -(δ j)) (s i)) n:=by unfold dMg;rw [<-acw];exact uv fun i hi=>by rw [hv i hi j hj];grind
  rw [e1,aK9 n s b fun t=>if t=true then δ j else -(δ j),h.sum,h.sum,aV rfl,aI (by decide)];grind
 have hg:∀i,i<n->gMg n w v' b i=gMg n w v b i+(if s i=true then ipW w δ (dMg n v b) else -(ipW w δ (dMg n v b))):=fun i hi=>by
  have e1:gMg n w v' b i=sumN (fun j=>v i j*dMg n v b j+(if s i=true then δ j else -(δ j))*dMg n v b j) w:=uv fun j hj=>by rw [hv i hi j hj,hd j hj];grind
  rw [e1,acw];congr 1;by_cases e:s i=true
  ·rw [aV e];exact uv fun j _=>by rw [aV e]
  ·rw [aI e];unfold ipW;rw [<-abC (-1) (fun j=> δ j*dMg n v b j) w |>.trans (by grind:(-1:Rat)*sumN (fun j=> δ j*dMg n v b j) w = -(sumN (fun j=> δ j*dMg n v b j) w))];exact uv fun j _=>by rw [aI e];grind
 refine ⟨hd,fun t=>lm t+(if t=true then ipW w δ (dMg n v b) else -(ipW w δ (dMg n v b))),h.nn,h.sum,fun i hi hp=>by rw [hg i hi,h.act i hi hp],fun i hi=>?_⟩
 rw [hg i hi]
 have:=h.all i hi
 grind
theorem a0o (n:Nat) (s:Nat->Bool) (t:Bool) (b:Nat->Rat):sdS n (fun i=> !s i) t b=sdS n s (!t) b:=uv fun i _=>by
 show (if (!s i)=t then b i else 0)=if s i=(!t) then b i else 0
 cases s i <;> cases t <;> rfl
theorem OpW.flip {v':Nat->Nat->Rat} {s':Nat->Bool} (h:OpW n w v s b lm) (hv:∀i,i<n->∀j,j<w->v' i j = -(v i j)) (hs:∀i,i<n->s' i = !s i) :
  (∀j,j<w->dMg n v' b j = -(dMg n v b j))/\OpW n w v' s' b fun t=>lm (!t):=by
 have hd:∀j,j<w->dMg n v' b j = -(dMg n v b j):=fun j hj=>by unfold dMg;rw [<-aTD];exact uv fun i hi=>by rw [hv i hi j hj];grind
 have hg:∀i,i<n->gMg n w v' b i=gMg n w v b i:=fun i hi=>uv fun j hj=>by rw [hv i hi j hj,hd j hj];grind
 refine ⟨hd,h.nn,fun t=>?_,fun i hi hp=>?_,fun i hi=>?_⟩
 ·have e1:sdS n s' t b=sdS n (fun i=> !s i) t b:=uv fun i hi=>by rw [hs i hi]
  rw [e1,a0o];exact h.sum _
 ·rw [hg i hi,h.act i hi hp,hs i hi,Bool.not_not]
 ·rw [hg i hi,hs i hi,Bool.not_not];exact h.all i hi
end
section
variable {M:List (List Rat)} {is:List Bool} {b b':List Rat} {lm lm':Bool->Rat}
theorem aWT (h:OpW M.length (al M) (vMg M is) (ub is) (cw b) lm):stQ M is b=(lm false-lm true)/((2:Int):Rat):=by
 have h1:=aXh M is b true;have h2:=aXh M is b false;rw [aV rfl,h.hi] at h1;rw [aI (by decide),h.hi] at h2;have e:dW (ptL M is b false) (ptL M is b false)=dW (ptL M is b true) (ptL M is b true) + -(dW (wyL M is b) (ptL M is b true)+dW (wyL M is b) (ptL M is b false)):=by
  unfold dW;rw [aQP,aQP,aVh, <- acw, <- aTD, <- acw];exact uv fun j hj=>by rw [aUo true hj,aUo false hj];unfold wyL;rw [fW hj];grind
 unfold stQ;rw [e,h1,h2];congr 1;grind
theorem aY7 (h:OpW M.length (al M) (vMg M is) (ub is) (cw b) lm) (h':OpW M.length (al M) (vMg M is) (ub is) (cw b') lm'):wyL M is b=wyL M is b'/\stQ M is b=stQ M is b':=by
 refine ⟨bE fun j hj=>?_,?_⟩
 ·rw [a06,a06];exact h'.uniq h j hj
 ·rw [aWT h,aWT h',h.a0n h',h.a0n h']
end
section
variable {M M2:List (List Rat)} {S S2:List Bool}
theorem a0p {δ:Nat->Rat} (g:NrG M S) (g2:NrG M2 S) (hl:M2.length=M.length) (hc:al M2=al M) (he:∀i,i<M.length->∀j,j<al M->el M2 i j=el M i j+δ j) :
  wyL M2 S (akv M2 S)=wyL M S (akv M S):=by
 obtain ⟨_,_,lm,O⟩:=g.aVw
 obtain ⟨_,_,lm3,O3⟩:=g2.aVw
 obtain ⟨hd,mu,O2⟩:=O.move (v':=vMg M2 S) (δ:= δ) fun i hi j hj=>by
  unfold vMg
  cases e:ub S i with
  | true=>rw [aV rfl,aV rfl,aV rfl,he i hi j hj]
  | false=>rw [aI (by decide),aI (by decide),aI (by decide),he i hi j hj];grind
 rw [<-hl, <- hc] at O2
 rw [(aY7 O3 O2).1]
 unfold wyL
 rw [hc]
 refine bE fun j hj=>?_
 rw [a06,a06,hl,hd j hj]
theorem a0q (g:NrG M S) (g2:NrG M S2) (hs:∀i,i<M.length->ub S2 i = !ub S i) :
  wyL M S2 (akv M S2)=aA (al M) (fun j=> -(wyL M S (akv M S)).getD j 0)/\stQ M S2 (akv M S2) = -stQ M S (akv M S):=by
 obtain ⟨_,_,lm,O⟩:=g.aVw
 obtain ⟨_,_,lm3,O3⟩:=g2.aVw
 obtain ⟨hd,O2⟩:=O.flip (v':=vMg M S2) (s':=ub S2) (fun i hi j hj=>by
  unfold vMg;rw [hs i hi]
  cases e:ub S i with
  | true=>rw [aI (by decide),aV rfl]
  | false=>rw [aV (by decide),aI (by decide)];grind) hs
 obtain ⟨a1,a2⟩:=aY7 O3 O2
 rw [a1,a2,aWT O2,aWT O]
 refine ⟨?_,?_⟩
 ·conv=>lhs;unfold wyL
  refine bE fun j hj=>?_
  unfold wyL
  rw [fW hj,a06,a06,hd j hj]
 ·show (lm true-lm false)/((2:Int):Rat) = -((lm false-lm true)/((2:Int):Rat))
  rw [Co,Co]
  grind
theorem a0r (xs:List Rat) (n:Nat) (h:xs.length=n):dW (aA n fun j=> -(xs.getD j 0)) (aA n fun j=> -(xs.getD j 0))=dW xs xs:=by unfold dW;rw [mX,h];exact uv fun j hj=>by rw [fW hj];grind
theorem aZl (hc:chE M2 S2=chE M S) (hd:chE M S=0->(aOu M2 S2=0↔aOu M S=0)):mfE M2 S2=mfE M S:=by
 unfold mfE;rw [hc];by_cases h:chE M S=0
 ·rw [aV h,aV h];by_cases h2:aOu M S=0
  ·rw [aV h2,aV ((hd h).2 h2)]
  ·rw [aI h2,aI fun h3=>h2 ((hd h).1 h3)]
 ·rw [aI h,aI h]
end
theorem aXu {n c:Nat} (f g:Nat->Nat->Rat):aj (aG n c f)=aj (aG n c g)/\al (aG n c f)=al (aG n c g):=by
 cases n with
 | zero=>exact ⟨rfl,rfl⟩
 | succ n=>
  have e:al (aG (n+1) c f)=al (aG (n+1) c g):=by rw [tM (yw n),tM (yw n)]
  refine ⟨?_,e⟩
  cases c with
  | zero=>
   have k:∀f:Nat->Nat->Rat,aj (aG (n+1) 0 f)=false:=fun f=>by
    cases h:aj (aG (n+1) 0 f) with
    | false=>rfl
    | true=>have:=(ba h).2.1;rw [tM (yw n)] at this;omega
   rw [k,k]
  | succ c=>rw [Lh (yw n) (yw c),Lh (yw n) (yw c)]
theorem a0J {n c:Nat} (f g:Nat->Nat->Rat) (S:List Bool):chE (aG n c f) S=chE (aG n c g) S:=by
 obtain ⟨h1,h2⟩:=aXu (n:=n) (c:=c) f g;have h3:Shp (aG n c f) S↔Shp (aG n c g) S:=by unfold Shp;rw [h1,h2,ab9,ab9]
 unfold chE;by_cases h:Shp (aG n c g) S
 ·rw [aV h,aV (h3.2 h),ab9,ab9]
 ·rw [aI h,aI fun h4=>h (h3.1 h4)]
def mvM (M:List (List Rat)) (D:List Rat) (i:Nat):List (List Rat):=aA i fun a=>aA (M.getD a []).length fun j=>(M.getD a []).getD j 0-((-1:Int):Rat)*D.getD j 0
def noS (S:List Bool) (i:Nat):List Bool:=aA i fun a=> !(ub S a)
def mvD (v:List Int) (w:Int):List Rat:=aA (w%3+1).toNat (cE v)
theorem aXN {S:List Bool} {n i:Nat} (h:i<n):ub (noS S n) i = !ub S i:=fW h false
theorem a0K {M:List (List Rat)} {S:List Bool} (h:S.length=M.length):chE M (noS S M.length)=chE M S:=by
 have h1:(noS S M.length).length=M.length:=mX ..;have h3:Shp M (noS S M.length)↔Shp M S:=by unfold Shp;rw [h1,h]
 have h4:chI (noS S M.length)=chI S:=by
  unfold chI;rw [h1,h];by_cases e:∀i,i<M.length->ub S i=ub S 0
  ·rw [aV e,aV fun i hi=>by rw [aXN hi,aXN (by omega),e i hi]]
  ·rw [aI e,aI fun e2=>e fun i hi=>by
    have:=e2 i hi;rw [aXN hi,aXN (by omega)] at this;revert this
    cases ub S i <;> cases ub S 0 <;> decide]
 unfold chE;rw [h4];by_cases e:Shp M S
 ·rw [aV e,aV (h3.2 e)]
 ·rw [aI e,aI fun h5=>e (h3.1 h5)]
theorem aW9 (l v:List Int) (n w:Int):mvM (dnM l n w) (mvD v w) (dnM l n w).length=aG (n%8).toNat (w%3+1).toNat fun i j=>cE l (i*(w%3+1).toNat+j)+cE v j:=by
 unfold mvM;rw [aXW];refine bE fun i hi=>?_
 unfold dnM;rw [na hi,mX];refine bE fun j hj=>?_
 unfold mvD;rw [fW hj,fW hj,show ((-1:Int):Rat) = -1 from rfl];grind
theorem a0s {l v:List Int} {n w:Int} {is:List Bool} (h:chE (mvM (dnM l n w) (mvD v w) (dnM l n w).length) is=0):NrG (mvM (dnM l n w) (mvD v w) (dnM l n w).length) is:=by
 rw [aW9] at h ⊢;obtain ⟨h1,h2,h3⟩:=aVD h;have hp:0<(n%8).toNat:=by have:=(ba h1.1).1;rw [ab9] at this;exact this
 refine ⟨h1.1,h1.2.2.2,h2,?_,?_,fun i j=>?_,h3⟩
 ·rw [tM hp];omega
 ·exact SM.mk (fun i j hi hj=>by
   obtain ⟨z,z1,z2⟩:=aZU l (i*(w%3+1).toNat+j);obtain ⟨y,y1,y2⟩:=aZU v j;have key:∀(q:Rat) (z:Int),z.natAbs<256->q*12=(z:Rat)->Sq 40 q:=fun q z a b=>by
    have e:q=(z:Rat)/((12:Int):Rat):=by rw [<-b,Co,Rat.mul_assoc,show (12:Rat)*((12:Int):Rat)⁻¹=1 from Gn _ (by decide),KJ]
    rw [e];exact (Sq.ratio (k:=10) (fO (show z.natAbs<2^10 by omega)) (fO (by decide)) (by decide)).le (by omega)
   exact ((key _ z z1 z2).add (key _ y y1 y2)).le (by omega)) (by omega)
 ·by_cases hi:i<(n%8).toNat
  ·by_cases hj:j<(w%3+1).toNat
   ·rw [Ny hi hj];obtain ⟨z,z1,z2⟩:=aZU l (i*(w%3+1).toNat+j);obtain ⟨y,y1,y2⟩:=aZU v j;exact ⟨z+y,by omega,by rw [Ll, <- z2, <- y2];grind⟩
   ·refine ⟨0,by decide,?_⟩;unfold el;rw [na hi,ss (by omega),vv];rfl
  ·refine ⟨0,by decide,?_⟩;unfold el;rw [mZ (xs:=aG _ _ _) (by rw [ab9];omega)];show (0:Rat)*12=_;rw [vv];rfl
theorem a2C (l v:List Int) (n w:Int) (is:List Bool):chE (mvM (dnM l n w) (mvD v w) (dnM l n w).length) is=chE (dnM l n w) is:=by rw [aW9];exact a0J _ _ _
theorem a2D (l v:List Int) (n w:Int):SM BQ (mvM (dnM l n w) (mvD v w) (dnM l n w).length):=by rw [aW9];exact SM.mk (fun i j _ _=>((WT _ _).add (WT _ _)).le (by unfold BQ;omega)) (by unfold BQ;omega)
theorem a0L {M:List (List Rat)} {S:List Bool} (h0:mfE M S=0):chE M S=0:=yT fun hn=>by unfold mfE at h0;rw [aI hn] at h0;exact hn h0
theorem a2E {M:List (List Rat)} {S:List Bool} (g:NrG M S) (h0:mfE M S=0):SL BQ (mfW M S)/\Sq BQ (mfB M S)/\Sq BQ (mfD M S):=by
 obtain ⟨⟨⟨w1,w2⟩,w3,w4⟩,_⟩:=aUq h0;have mg:=g.mg;have hd:∀t,Sq 700000000 (dW (ptL M S (akv M S) t) (ptL M S (akv M S) t)):=fun t=>aVi (mg.sp t) (mg.sp t) (mg.lp t) (by omega);have hs:Sq BQ (stQ M S (akv M S)):=by unfold stQ;exact (((hd false).sub (hd true)).div (k:=64) Sq.atH (by decide)).le (by unfold BQ;omega)
 have hD:Sq BQ (aOu M S):=(aVi mg.sw mg.sw mg.lw (by omega):Sq 700000000 (aOu M S)).le (by unfold BQ;omega);have hW:SL BQ (wyL M S (akv M S)):=mg.sw.le (by unfold BQ;omega);rw [<-w1, <- w2, <- w3];exact ⟨hW,hs,hD⟩
structure MvF (M M2:List (List Rat)) (S S2:List Bool):Prop where
 e2:mfE M2 S=mfE M S
 e3:mfE M S2=mfE M S
 line:mfE M S=0->mfW M2 S=mfW M S/\mfD M2 S=mfD M S/\(mfW M S2).length=(mfW M S).length/\(∀j,j<(mfW M S).length->(mfW M S).getD j 0 = -(mfW M S2).getD j 0)/\mfD M S2=mfD M S/\mfB M S = -mfB M S2
theorem a0M (l v:List Int) (s n w:Int):MvF (dnM l n w) (mvM (dnM l n w) (mvD v w) (dnM l n w).length) (dnS s n 0) (noS (dnS s n 0) (dnM l n w).length):=by
 have hl:(dnS s n 0).length=(dnM l n w).length:=by unfold dnS dnN;rw [mX,aXW,aI (by decide)];rfl
 have c2:=a2C l v n w (dnS s n 0);have c3:=a0K hl;have k2:chE (dnM l n w) (dnS s n 0)=0->wyL (mvM (dnM l n w) (mvD v w) (dnM l n w).length) (dnS s n 0) (akv (mvM (dnM l n w) (mvD v w) (dnM l n w).length) (dnS s n 0))=wyL (dnM l n w) (dnS s n 0) (akv (dnM l n w) (dnS s n 0)):=fun h=>by
  have g:NrG (dnM l n w) (dnS s n 0):=a17 h;refine a0p (δ:=cE v) g (a0s (c2.trans h)) ?_ ?_ fun i hi j hj=>?_
  ·rw [aW9,ab9,aXW]
  ·rw [aW9];exact (aXu _ _).2
  ·have hp:=(ba g.right).1;rw [aXW] at hp hi;have hj:j<(w%3+1).toNat:=by unfold dnM at hj;rw [tM hp] at hj;exact hj
   rw [aW9,Ny hi hj];unfold dnM;rw [Ny hi hj]
 have k3:chE (dnM l n w) (dnS s n 0)=0->wyL (dnM l n w) (noS (dnS s n 0) (dnM l n w).length) (akv (dnM l n w) (noS (dnS s n 0) (dnM l n w).length))=aA (al (dnM l n w)) (fun j=> -(wyL (dnM l n w) (dnS s n 0) (akv (dnM l n w) (dnS s n 0))).getD j 0)/\stQ (dnM l n w) (noS (dnS s n 0) (dnM l n w).length) (akv (dnM l n w) (noS (dnS s n 0) (dnM l n w).length)) = -stQ (dnM l n w) (dnS s n 0) (akv (dnM l n w) (dnS s n 0)):=fun h=>a0q (a17 h) (a17 (c3.trans h)) fun i hi=>aXN hi
 have d2:chE (dnM l n w) (dnS s n 0)=0->aOu (mvM (dnM l n w) (mvD v w) (dnM l n w).length) (dnS s n 0)=aOu (dnM l n w) (dnS s n 0):=fun h=>by unfold aOu;rw [k2 h]
 have d3:chE (dnM l n w) (dnS s n 0)=0->aOu (dnM l n w) (noS (dnS s n 0) (dnM l n w).length)=aOu (dnM l n w) (dnS s n 0):=fun h=>by unfold aOu;rw [(k3 h).1,a0r _ _ (aVh ..)]
 have e2:=aZl c2 fun h=>by rw [d2 h]
 have e3:=aZl c3 fun h=>by rw [d3 h]
 refine ⟨e2,e3,fun h0=>?_⟩;have hc:chE (dnM l n w) (dnS s n 0)=0:=yT fun hn=>by unfold mfE at h0;rw [aI hn] at h0;exact hn h0
 unfold mfW mfD mfB;rw [e2,e3,aV h0,aV h0,aV h0,aV h0,aV h0,aV h0,aV h0,aV h0];refine ⟨k2 hc,d2 hc,by rw [(k3 hc).1,mX,aVh],fun j hj=>?_,d3 hc,by rw [(k3 hc).2];grind⟩;rw [aVh] at hj;rw [(k3 hc).1,fW hj];grind
noncomputable def a0N:List az:=aYK::Ap::aT3::Cy::cvRowI::xQ::aot::aTG::Ke::V9::[]
theorem a0t:bd a0N:=⟨aYN,CL,aRD,nJ,asN,mV,aoj,aTK,z7,Qc,trivial⟩
noncomputable def flMoves:List AV->Option (Option Prop×AV×List Ob)
 | [.k (.list (.int .i64)) l,.k (.list (.int .i64)) v,.k (.int .i64) s,.k (.int .i64) n,.k (.int .i64) w]=>some (some ((∀i,ax (l.getD i 0))/\(∀i,ax (v.getD i 0))/\ax s/\ax n/\ax w),.k .bool true,[])
 | _=>none
noncomputable def a0u:az:=⟨4,false,flMoves⟩
noncomputable def aZt (l v:List Int) (s n w:Int):bk:=⟨fun key_=>match key_ with | 9=>7 | 20=>31 | 22=>28 | _=>0,fun key_=>match key_ with
 | 7=>some (⟨Nat,fun i=>[(11,.k (.list (.list .rq)) (dnM l n w)),(12,.k (.list .bool) (dnS s n 0)),(13,.pt 13 0 12 0 0),(14,.k (.int .i64) (mfE (dnM l n w) (dnS s n 0))),(15,.k (.list .rq) (mvD v w)),(16,.own 16 0 1),(17,.own 17 0 1),(18,.k (.int .i64) ((i:Nat):Int))],
 fun i=>[(13,.box 59 (.agg (.cons (.agg (.cons (.k (.list .q) (mfW (dnM l n w) (dnS s n 0))) (.cons (.k .q (mfB (dnM l n w) (dnS s n 0))) .nil))) (.cons (.k .q (mfD (dnM l n w) (dnS s n 0))) (.cons (.k (.list .q) (mfY (dnM l n w) (dnS s n 0))) .nil))))),(16,.arr 26 (.list .rq) (mvM (dnM l n w) (mvD v w) i)),(17,.arr 4 .bool (noS (dnS s n 0) i))],fun _ i=>i<=(dnM l n w).length,fun i=>(dnM l n w).length-i⟩)
 | 18=>some (⟨Nat,fun i=>[(13,.pt 13 0 12 0 0),(19,.pt 19 0 12 0 0),(21,.pt 21 0 12 0 0),(23,.k (.int .i64) ((i:Nat):Int))],
 fun i=>[(13,.box 59 (.agg (.cons (.agg (.cons (.k (.list .q) (mfW (dnM l n w) (dnS s n 0))) (.cons (.k .q (mfB (dnM l n w) (dnS s n 0))) .nil))) (.cons (.k .q (mfD (dnM l n w) (dnS s n 0))) (.cons (.k (.list .q) (mfY (dnM l n w) (dnS s n 0))) .nil))))),(19,.box 59 (.agg (.cons (.agg (.cons (.k (.list .q) (mfW (mvM (dnM l n w) (mvD v w) (dnM l n w).length) (dnS s n 0))) (.cons (.k .q (mfB (mvM (dnM l n w) (mvD v w) (dnM l n w).length) (dnS s n 0))) .nil))) (.cons (.k .q (mfD (mvM (dnM l n w) (mvD v w) (dnM l n w).length) (dnS s n 0))) (.cons (.k (.list .q) (mfY (mvM (dnM l n w) (mvD v w) (dnM l n w).length) (dnS s n 0))) .nil))))),(21,.box 59 (.agg (.cons (.agg (.cons (.k (.list .q) (mfW (dnM l n w) (noS (dnS s n 0) (dnM l n w).length))) (.cons (.k .q (mfB (dnM l n w) (noS (dnS s n 0) (dnM l n w).length))) .nil))) (.cons (.k .q (mfD (dnM l n w) (noS (dnS s n 0) (dnM l n w).length))) (.cons (.k (.list .q) (mfY (dnM l n w) (noS (dnS s n 0) (dnM l n w).length))) .nil)))))],fun _ i=>i<=(mfW (dnM l n w) (dnS s n 0)).length,fun i=>(mfW (dnM l n w) (dnS s n 0)).length-i⟩) | _=>none,nR,nU⟩
def aUv (l v:List Int) (s n w:Int):Prop:=(mfW (dnM l n w) (dnS s n (0:Int))=mfW (dnM l n w) (dnS s n (0:Int))/\mfB (dnM l n w) (dnS s n (0:Int))=mfB (dnM l n w) (dnS s n (0:Int)))/\mfD (dnM l n w)
 (dnS s n (0:Int))=mfD (dnM l n w) (dnS s n (0:Int))/\mfY (dnM l n w) (dnS s n (0:Int))=mfY (dnM l n w) (dnS s n (0:Int))
def aXX (l v:List Int) (s n w:Int):Prop:=
 let t1:=dnS s n (0:Int);
 let t2:=mvM (dnM l n w) (mvD v w) (dnM l n w).length;
 let t3:=noS t1 (dnM l n w).length;
 let t4:=mfW (dnM l n w) t1;
 ((∀(i:Nat),ax (l.getD i (0:Int)))/\ax s/\ax n/\ax w/\ax (0:Int))/\SM BQ (dnM l n w)/\(chE (dnM l n w) t1=(0:Int)->NrG (dnM l n w) t1)/\(ax
 w/\(0:Int)<(3:Int)/\(3:Int)<=(9223372036854775807:Int))/\ax (w%(3:Int)+(1:Int))/\((∀(i:Nat),ax (v.getD i (0:Int)))/\(0:Int)<=w%(3 :
 Int)+(1:Int)/\w%(3:Int)+(1:Int)<=(1000000:Int))/\∃(x0:Nat),((dnM l n w=dnM l n w/\dnS s n (0:Int)=dnS s n (0:Int)/\mfE (dnM l n w) t1=mfE
 (dnM l n w) t1/\aA (w%(3:Int)+(1:Int)).toNat (cE v)=mvD v w/\(0:Int)=(↑x0:Int))/\aUv l v s n w/\mvM (dnM l n w) (mvD v w) x0=[]/\noS t1 x0 =
 [])/\x0<=(dnM l n w).length/\∀(x:Nat),x<=(dnM l n w).length->(dnM l n w).length<=aB->bif decide ((↑x:Int)<(↑(dnM l n w).length:Int)) then ((0:Int) <=
 (↑x:Int)/\(↑x:Int)<(↑(dnM l n w).length:Int))/\ax (-1:Int)/\(((dnM l n w).getD (↑x:Int).toNat []).length<=(mvD v w).length/\SL BQ ((dnM l n w).getD (↑x
 : Int).toNat [])/\SL BQ (mvD v w)/\Sq BQ (↑(-1:Int):Rat)/\∀(j:Nat),Sq BQ ((↑(-1:Int):Rat)*(mvD v w).getD j (0:Rat)))/\(mvM (dnM l n w) (mvD v w)
 x).length+[aA ((dnM l n w).getD (↑x:Int).toNat []).length fun (j:Nat)=>((dnM l n w).getD (↑x:Int).toNat []).getD j (0:Rat)-(↑(-1:Int):Rat)*(mvD v
 w).getD j (0:Rat)].length<=aB/\((0:Int)<=(↑x:Int)/\(↑x:Int)<(↑t1.length:Int))/\(noS t1 x).length+[!t1.getD (↑x:Int).toNat false].length<=aB/\ax
 ((↑x:Int)+(1:Int))/\∃(x':Nat),((dnM l n w=dnM l n w/\dnS s n (0:Int)=dnS s n (0:Int)/\mfE (dnM l n w) t1=mfE (dnM l n w) t1/\mvD v w=mvD v w /\
 (↑x:Int)+(1:Int)=(↑x':Int))/\aUv l v s n w/\(mvM (dnM l n w) (mvD v w) x).append [aA ((dnM l n w).getD (↑x:Int).toNat []).length fun (j:Nat)=>((dnM
 l n w).getD (↑x:Int).toNat []).getD j (0:Rat)-(↑(-1:Int):Rat)*(mvD v w).getD j (0:Rat)]=mvM (dnM l n w) (mvD v w) x'/\(noS t1 x).append [!t1.getD (↑x :
 Int).toNat false]=noS t1 x')/\x'<=(dnM l n w).length/\(dnM l n w).length-x'<(dnM l n w).length-x else SM BQ (mvM (dnM l n w) (mvD v w) x)/\(chE (mvM (dnM l n
 w) (mvD v w) x) t1=(0:Int)->NrG (mvM (dnM l n w) (mvD v w) x) t1)/\SM BQ (dnM l n w)/\(chE (dnM l n w) (noS t1 x)=(0:Int)->NrG (dnM l n w) (noS t1 x))/\bif
 !decide (mfE (dnM l n w) t1=mfE (mvM (dnM l n w) (mvD v w) x) t1) then false=true else bif !decide (mfE (dnM l n w) t1=mfE (dnM l n w) (noS t1 x)) then false=true
 else bif !decide (mfE (dnM l n w) t1=(0:Int)) then true=true else ∃(x0:Nat),((0:Int)=(↑x0:Int)/\aUv l v s n w/\((mfW (mvM (dnM l n w) (mvD v w) x)
 t1=mfW t2 t1/\mfB (mvM (dnM l n w) (mvD v w) x) t1=mfB t2 t1)/\mfD (mvM (dnM l n w) (mvD v w) x) t1=mfD t2 t1/\mfY (mvM (dnM l n w) (mvD v w) x) t1=mfY t2 t1)
 /\ (mfW (dnM l n w) (noS t1 x)=mfW (dnM l n w) t3/\mfB (dnM l n w) (noS t1 x)=mfB (dnM l n w) t3)/\mfD (dnM l n w) (noS t1 x)=mfD (dnM l n w) t3/\mfY (dnM l n w)
 (noS t1 x)=mfY (dnM l n w) t3)/\x0<=t4.length/\∀(x:Nat),let u3:= -(mfW (dnM l n w) t3).getD (↑x:Int).toNat (0:Rat);
 let u2:=(mfW t2 t1).getD (↑x:Int).toNat (0:Rat);let u1:=t4.getD (↑x:Int).toNat (0:Rat);x<=t4.length->t4.length<=aB->bif decide ((↑x:Int) <
 (↑t4.length:Int)) then ((0:Int)<=(↑x:Int)/\(↑x:Int)<(↑t4.length:Int))/\((0:Int)<=(↑x:Int)/\(↑x:Int)<(↑(mfW t2 t1).length:Int))/\(Sq BQ u1/\Sq
 BQ u2)/\bif !decide (fS u1 u2=(0:Int)) then false=true else ((0:Int)<=(↑x:Int)/\(↑x:Int)<(↑t4.length:Int))/\((0:Int)<=(↑x:Int)/\(↑x:Int) <
 (↑(mfW (dnM l n w) t3).length:Int))/\Sq BQ ((mfW (dnM l n w) t3).getD (↑x:Int).toNat (0:Rat))/\(Sq BQ u1/\Sq BQ u3)/\bif !decide (fS u1 u3=(0:Int)) then
 false=true else ax ((↑x:Int)+(1:Int))/\∃(x':Nat),((↑x:Int)+(1:Int)=(↑x':Int)/\aUv l v s n w/\((mfW t2 t1=mfW t2 t1/\mfB t2 t1=mfB t2
 t1)/\mfD t2 t1=mfD t2 t1/\mfY t2 t1=mfY t2 t1)/\(mfW (dnM l n w) t3=mfW (dnM l n w) t3/\mfB (dnM l n w) t3=mfB (dnM l n w) t3)/\mfD (dnM l n w) t3=mfD (dnM
 l n w) t3/\mfY (dnM l n w) t3=mfY (dnM l n w) t3)/\x'<=t4.length/\t4.length-x'<t4.length-x else (Sq BQ (mfD (dnM l n w) t1)/\Sq BQ (mfD t2 t1))/\bif decide
 (fS (mfD (dnM l n w) t1) (mfD t2 t1)=(0:Int)) then (Sq BQ (mfD (dnM l n w) t1)/\Sq BQ (mfD (dnM l n w) t3))/\bif decide (fS (mfD (dnM l n w) t1) (mfD (dnM l n
 w) t3)=(0:Int)) then Sq BQ (mfB (dnM l n w) t3)/\(Sq BQ (mfB (dnM l n w) t1)/\Sq BQ (-mfB (dnM l n w) t3))/\decide (fS (mfB (dnM l n w) t1) (-mfB (dnM l n w) t3)
 = (0:Int))=true else false=true else false=true
theorem aZm (l v:List Int) (s n w:Int):aw a0N [] (aZt l v s n w) Tryz.f4 (.k .bool true) [.k (.list (.int .i64)) l,.k (.list (.int .i64)) v,.k (.int .i64) s,.k (.int .i64) n,.k (.int .i64) w]=aXX l v s n w:=by kernel_rfl
theorem aZn (l v:List Int) (s n w:Int) (hg:(∀i,ax (l.getD i 0))/\(∀i,ax (v.getD i 0))/\ax s/\ax n/\ax w):aXX l v s n w:=by
 obtain ⟨hl,hv,hs,hn,hw⟩:=hg;have A:=a0M l v s n w;have hM':SM BQ (dnM l n w):=(aZV l n w).le (by unfold BQ;omega);have hN:∀is,chE (dnM l n w) is=0->NrG (dnM l n w) is:=fun is=>a17;have hN2:chE (mvM (dnM l n w) (mvD v w) (dnM l n w).length) (dnS s n 0)=0->NrG (mvM (dnM l n w) (mvD v w) (dnM l n w).length) (dnS s n 0):=a0s;have xz:SM BQ (mvM (dnM l n w) (mvD v w) (dnM l n w).length):=a2D l v n w;have hD:SL BQ (mvD v w):=SL.mk (fun i _=>(WT _ _).le (by unfold BQ;omega)) (by unfold BQ;omega);have hlen:(dnM l n w).length<=7:=by rw [aXW];omega
 have hls:(dnS s n 0).length=(dnM l n w).length:=by unfold dnS dnN;rw [mX,aXW,aI (by decide)];rfl
 have gK:∀i,((dnM l n w).getD i []).length<=(mvD v w).length:=fun i=>by
  unfold mvD;rw [mX];by_cases hi:i<(n%8).toNat
  ·unfold dnM;rw [na hi,mX];exact cM _
  ·rw [mZ (xs:=dnM l n w) (by rw [aXW];omega)];exact fi _
 have Y2:Sq BQ ((-1:Int):Rat):=(arz (show ax (-1) by unfold ax;omega)).le (by unfold BQ;omega);have a4G:∀j,Sq BQ (((-1:Int):Rat)*(mvD v w).getD j 0):=fun j=>((arz (show ax (-1) by unfold ax;omega)).mul (show Sq 256 ((mvD v w).getD j 0) from (SL.mk (fun i _=>(WT _ _).le (by omega)) (by omega):SL 256 (mvD v w)) j)).le (by unfold BQ;omega);have rs:aUv l v s n w:=⟨⟨rfl,rfl⟩,rfl,rfl⟩
 unfold aXX;dsimp only;refine ⟨⟨hl,hs,hn,hw,by unfold ax;omega⟩,hM',hN _,⟨hw,by omega,by omega⟩,by unfold ax;omega,⟨hv,by omega,by omega⟩,0,⟨⟨rfl,rfl,rfl,rfl,rfl⟩,rs,rfl,rfl⟩,fi _,fun x hx hL=>aH (fun h=>?_) fun h=>?_⟩
 ·refine ⟨⟨by omega,h⟩,by unfold ax;omega,⟨gK x,hM' x,hD,Y2,a4G⟩,?_,⟨by omega,by rw [hls];exact h⟩,?_,by unfold ax;omega,x+1,⟨⟨rfl,rfl,rfl,rfl,rfl⟩,rs,(tI x _).symm,(tI x _).symm⟩,by omega,by omega⟩
  ·unfold mvM;rw [mX];show x+1<=aB;unfold aB;omega
  ·unfold noS;rw [mX];show x+1<=aB;unfold aB;omega
 ·have ex:x=(dnM l n w).length:=by omega
  subst ex;generalize mvM (dnM l n w) (mvD v w) (dnM l n w).length=M2 at *
  generalize noS (dnS s n 0) (dnM l n w).length=S2 at *
  generalize dnS s n 0=S at *
  refine ⟨xz,hN2,hM',hN _,dP (fun h=>absurd A.e2.symm h) fun _=>dP (fun h=>absurd A.e3.symm h) fun _=>dP (fun _=>rfl) fun h0=>?_⟩;obtain ⟨a1,a2,a3,a4,a5,a6⟩:=A.line h0;have g:=hN S (a0L h0);obtain ⟨q1,q2,q3⟩:=a2E g h0;have hW2:∀j,j<(mfW (dnM l n w) S).length->Sq BQ ((mfW (dnM l n w) S2).getD j 0):=fun j hj=>by have:=(q1 j).neg;rw [a4 j hj] at this;rwa [show -(-(mfW (dnM l n w) S2).getD j 0)=(mfW (dnM l n w) S2).getD j 0 by grind] at this
  have p7:Sq BQ (mfB (dnM l n w) S2):=by have:=q2.neg;rw [a6] at this;rwa [show -(-mfB (dnM l n w) S2)=mfB (dnM l n w) S2 by grind] at this
  rw [a1,a2,a3,a5];refine ⟨0,⟨rfl,rs,⟨⟨rfl,rfl⟩,rfl,rfl⟩,⟨rfl,rfl⟩,rfl,rfl⟩,fi _,fun y hy n5=>aH (fun h=>?_) fun h=>?_⟩
  ·have hy':y<(mfW (dnM l n w) S).length:=by omega
   rw [show ((y:Nat):Int).toNat=y from rfl];refine ⟨⟨by omega,h⟩,⟨by omega,h⟩,⟨q1 y,q1 y⟩,dP (fun h5=>absurd (gz.2 rfl) h5) fun _=>⟨⟨by omega,h⟩,⟨by omega,h⟩,hW2 y hy',⟨q1 y,(hW2 y hy').neg⟩,dP (fun h5=>absurd (gz.2 (a4 y hy')) h5) fun _=>⟨by unfold ax aB at *;omega,y+1,⟨rfl,rs,⟨⟨rfl,rfl⟩,rfl,rfl⟩,⟨rfl,rfl⟩,rfl,rfl⟩,by omega,by omega⟩⟩⟩
  ·exact ⟨⟨q3,q3⟩,aH (fun _=>⟨⟨q3,q3⟩,aH (fun _=>⟨p7,⟨q2,p7.neg⟩,qZ (gz.2 a6)⟩) fun h5=>absurd (gz.2 rfl) h5⟩) fun h5=>absurd (gz.2 rfl) h5⟩
theorem aZo:ah (cfg []) a0u:=cf a0t bp Tryz.func4 (by kernel_rfl) fun args g r hn hc hg hf=>by
 replace hc:flMoves args=some (g,r,hn):=hc;unfold flMoves at hc;split at hc
 ·obtain ⟨rfl,rfl,rfl⟩:=aN hc;cases aY (aZm _ _ _ _ _) (aZn _ _ _ _ _ hg);exact ⟨rfl,by kernel_rfl,_,by assumption⟩
 ·cases hc
end Go.Proofs.YtinjjghecedkeaaGreatDoor.AM
namespace Go.Proofs.YtinjjghecedkeaaGreatDoor
open Go.ChangeShapes Go.WideShapes Go.ChangeAt Go.RowKit AM
noncomputable def aHe (os:Os):World:={ World.holding Tryz.prog os ⟨#[],#[],[]⟩ with heap:=((World.holding Tryz.prog os ⟨#[],#[],[]⟩).heap.modify 2 (OU #[.int .u8 0,.int .u8 1,.int .u8 56,.int .u8 2,.int .u8 57,.int .u8 49,.int .u8 28,.int .u8 3,.int .u8 61,.int .u8 58,.int .u8 42,.int .u8 50,.int .u8 38,.int .u8 29,.int .u8 17,.int .u8 4,.int .u8 62,.int .u8 47,.int .u8 59,.int .u8 36,.int .u8 45,.int .u8 43,.int .u8 51,.int .u8 22,.int .u8 53,.int .u8 39,.int .u8 33,.int .u8 30,.int .u8 24,.int .u8 18,.int .u8 12,.int .u8 5,.int .u8 63,.int .u8 55,.int .u8 48,.int .u8 27,.int .u8 60,.int .u8 41,.int .u8 37,.int .u8 16,.int .u8 46,.int .u8 35,.int .u8 44,.int .u8 21,.int .u8 52,.int .u8 32,.int .u8 23,.int .u8 11,.int .u8 54,.int .u8 26,.int .u8 40,.int .u8 15,.int .u8 34,.int .u8 20,.int .u8 31,.int .u8 10,.int .u8 25,.int .u8 14,.int .u8 19,.int .u8 9,.int .u8 13,.int .u8 8,.int .u8 7,.int .u8 6])) }
theorem aWl {W:World} (h:laidMetH Tryz.prog Rows.marginMovesRow.laid W):cK W:=by
 have h1:laidMet Tryz.prog [("math/bits.deBruijn64tab",Rows.laid_math_bits_deBruijn64tab)] W:=h
 exact EU (by kernel_rfl) h1 trivial
theorem aSv (H:Type) (enc:TypeId×Value->H) (W:World) (base:Nat) (args:Array Value) (ds gs:List (DataW H)) (before:List MemPlace)
  (fV:∀(j:Nat) t v,Tryz.f4.params[j]? = some t->args[j]? = some v->Value.okWide Tryz.prog W .any base t v)
  (hW:DataW.Whole enc Tryz.prog Tryz.f4.params.toList Rows.marginMovesSpec.vars false W args.toList ds gs before) (aan:cK W) :
  Calls Tryz.prog 4 args W fun e W'=>∃v,e = .returned v/\Rows.marginMovesSpec.post enc Tryz.prog Tryz.f4 false true false false W args v W':=by
 have YR:=hW
 obtain ⟨p,q,hA0,hV,rfl,hfz,hnd⟩:=hW
 have hA:DataW.TrodAll enc Tryz.prog W 0 (fun _=>true) true Tryz.f4.params.toList args.toList ds p:=hA0
 rw [Tryz.params4] at hA fV
 obtain ⟨v0,vs0,d0,ds0,p0,q0,IE,rfl,rfl,h0,r0⟩:=trodAll_cons hA
 obtain ⟨v1,vs1,d1,ds1,p1,q1,rfl,rfl,rfl,h1,r1⟩:=trodAll_cons r0
 obtain ⟨v2,vs2,d2,ds2,p2,q2,rfl,rfl,rfl,h2,r2⟩:=trodAll_cons r1
 obtain ⟨v3,vs3,d3,ds3,p3,q3,rfl,rfl,rfl,h3,r3⟩:=trodAll_cons r2
 obtain ⟨v4,vs4,d4,ds4,p4,q4,rfl,rfl,rfl,h4,r4⟩:=trodAll_cons r3
 obtain ⟨rfl,rfl,rfl⟩:=trodAll_nil r4
 obtain rfl:args = #[v0,v1,v2,v3,v4]:=by cases args;simp_all
 obtain ⟨rfl,rfl⟩:=trodVars_none hV
 obtain ⟨l0,s0,g0⟩:=aet Tryz.underlying22 Tryz.underlying3 (by kernel_rfl) (fV 0 22 v0 rfl rfl) h0
 obtain ⟨l1,s1,g1⟩:=aet Tryz.underlying22 Tryz.underlying3 (by kernel_rfl) (fV 1 22 v1 rfl rfl) h1
 obtain ⟨a2,rfl,rfl,rfl,w2⟩:=open_int Tryz.underlying3 (fV 2 3 v2 rfl rfl) h2
 obtain ⟨a3,rfl,rfl,rfl,w3⟩:=open_int Tryz.underlying3 (fV 3 3 v3 rfl rfl) h3
 obtain ⟨a4,rfl,rfl,rfl,w4⟩:=open_int Tryz.underlying3 (fV 4 3 v4 rfl rfl) h4
 clear hA0
 refine (Mg (args:=[.k (.list (.int .i64)) l0,.k (.list (.int .i64)) l1,.k (.int .i64) a2,.k (.int .i64) a3,.k (.int .i64) a4]) (vs:=[v0,v1,.int .i64 a2,.int .i64 a3,.int .i64 a4]) aZo rfl ⟨g0,g1,wf_i64 w2,wf_i64 w3,wf_i64 w4⟩ aan ⟨s0,s1,(.mkInt _ _),(.mkInt _ _),(.mkInt _ _),trivial⟩).mono fun e W' ⟨he,hg⟩=>?_
 subst he
 exact ⟨_,rfl,OV rfl rfl (fun t ht=>by
  rw [Tryz.params4] at ht;have bB:([22,22,3,3,3].all fun u=>Tryz.prog.readableRec u&&decide (u<Tryz.prog.types.size))=true:=by kernel_rfl
  have:=ye.1 bB t (by simpa using ht);simpa using this) YR ⟨rfl,rfl,rfl⟩ hg⟩
theorem aXs (os:Os):laidMet Tryz.prog Rows.marginMovesRow.laid ((aHe os).forCall (fun _ _=>0) ⟨#[],#[.slice none 0 0,.slice none 0 0,.int .i64 0,.int .i64 0,.int .i64 0],[]⟩).memory:=laidMet_of_run' 8 (by kernel_rfl) (by kernel_rfl)
theorem aWp (os:Os) {H:Type} (enc:TypeId×Value->H):∃places,DataW.whole enc Tryz.prog ((aHe os).forCall (fun _ _=>0) ⟨#[],#[.slice none 0 0,.slice none 0 0,.int .i64 0,.int .i64 0,.int .i64 0],[]⟩).memory Tryz.f4.params.toList Rows.marginMovesSpec.vars false (#[.slice none 0 0,.slice none 0 0,.int .i64 0,.int .i64 0,.int .i64 0]:Array Value).toList 8=some ([.nil,.nil,.lit (.int .i64 0),.lit (.int .i64 0),.lit (.int .i64 0)],[],places):=⟨[],by kernel_rfl⟩
theorem aVl (os:Os) (started:os.Started) (H:Type) (enc:TypeId×Value->H) (F:Stop.Interp) :
  ReturnsInHanded {} Tryz.checked os 4 .any ((OpenSpec.ofChange Rows.marginMovesSpec).preRow enc Tryz.prog Tryz.f4 Rows.marginMovesRow.domain false Rows.marginMovesRow.laid) (((OpenSpec.ofChange Rows.marginMovesSpec).at F).post enc Tryz.prog Tryz.f4 false true false false):=by
 obtain ⟨places,hx⟩:=aWp os enc
 refine returnsInHanded_of_row (C:=Tryz.checked) (s:=OpenSpec.ofChange Rows.marginMovesSpec) own started (by kernel_rfl) Tryz.func4
  (witness_row_at (enc:=enc) (C:=Tryz.checked) false (aHe os) #[.slice none 0 0,.slice none 0 0,.int .i64 0,.int .i64 0,.int .i64 0] rfl (by kernel_rfl) (by kernel_rfl) (by kernel_rfl)
   (OpenSpec.preRow_of_cond 8 hx (by kernel_rfl) (fun k hk=>by cases hk) (by kernel_rfl) (aXs os))) ?_
 intro W base args ds gs before fV hW _ _ _ hL _ _
 exact aSv H enc W base args ds gs before fV hW (aWl hL)
theorem aWz:Rows.MarginMovesSaid:=
 OpenClaim.holds_of_cond 4 Tryz.f4 rfl rfl rfl rfl rfl rfl rfl ⟨rfl,rfl,rfl,rfl,rfl⟩ rfl rfl rfl rfl rfl (by kernel_rfl) Tryz.func4 (by kernel_rfl)
  (Cq (by kernel_rfl)) (by unfold Func.isWrapper;first | (rw [aV (by decide +kernel)];kernel_rfl) | (rw [aI (by decide +kernel)];exact ⟨rfl,rfl⟩))
  (fun os started H enc _ F=>by rw [OpenClaim.pre_eq_preRow];exact aVl os started H enc F)
theorem aWA (f:FuncId) (fn:Func) (hf:Tryz.pinned.checked.prog.funcNamed "abaculus/abaculuslaw32.MarginMoves" = some f) (hfn:Tryz.pinned.checked.prog.funcs[f]? = some fn) :
  false=Tryz.pinned.checked.prog.looks []/\∀(j:Nat) t,fn.params[j]? = some t->Tryz.pinned.checked.prog.wantsStandIn t=false:=by
 obtain rfl:f=4:=Option.some.inj ((show Tryz.prog.funcNamed "abaculus/abaculuslaw32.MarginMoves" = some 4 by kernel_rfl).symm.trans hf) |>.symm
 obtain rfl:fn=Tryz.f4:=(Option.some.inj (Tryz.func4.symm.trans hfn)).symm
 refine ⟨by kernel_rfl,fun j t ht=>?_⟩
 rw [Tryz.params4] at ht
 have hm:t∈[22,22,3,3,3]:=by simpa using Array.mem_of_getElem? ht
 have bB:([22,22,3,3,3].all fun u=> !Tryz.prog.wantsStandIn u)=true:=by kernel_rfl
 exact (show Tryz.prog.wantsStandIn t=false by simpa using ye.1 bB t hm)
theorem marginMovesCard_holds:Rows.MarginMovesCardSaid:=Claim7.holds_tied_plain_at .later [] _ _ _ _ aWz (fun _ h=>by cases h) (by kernel_rfl) (fun _ h=>by cases h) marginMoves_row_tie rfl ⟨rfl,rfl⟩ (by kernel_rfl) rfl aWA (by kernel_rfl)
#print axioms marginMovesCard_holds
end Go.Proofs.YtinjjghecedkeaaGreatDoor
