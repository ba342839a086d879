/- whether weights, a line, a width are a proof, whether weights meet, is as the document says, of any. MarginProofs, by abstract execution. (Printed by vc.py.) Two contracts of one function. MarginMoves: what moved rows and exchanged sides have. law32.drawn and MarginFits, by abstract execution. (Printed by vc.py.) The line of the widest street: what it hangs on; other orders, doubled rows, moved rows, sides exchanged. MarginFits: what the steps end in; the rows that are drawn. MarginMany, by abstract execution. (Printed by vc.py.) The document's widest street, by abstract execution. (Printed by vc.py.) margin.Same, Joins, Meet, Proof, by abstract execution. (Printed by vc.py.) margin.Fit, Same; chapter 32's known example; the document's errors; by abstract execution. (Printed by vc.py.) The document's lines of least squares, by abstract execution. (Printed by vc.py.) The document's determinants and inverses, by abstract execution. (Printed by vc.py.) elim.Det: determinants by elimination, by abstract execution. (Printed by vc.py.) The document's reduced forms, kernels, solutions, by abstract execution. (Printed by vc.py.) Chapter 12's statements: the line of least squares, by abstract execution. (Printed by vc.py.) Least squares: what a fitted line is. -/
import Derived.Test.YtlijkeolpmgioaaGreatDoorCards
import Derived.Test.YtlijkeolpmgioaaGreatDoorBd12
set_option maxRecDepth 100000
set_option linter.unusedVariables false
set_option linter.unusedSimpArgs false
set_option maxHeartbeats 1000000
namespace Go.Proofs.YtlijkeolpmgioaaGreatDoor.AM
section
variable {x:List (List Rat)} {y:List Rat} {r:Rat}
end
open Go.RowKit
def a4V:az:=⟨30,false,λargs=>match args with
 | [.k (.list (.int .i64)) l,.k (.int .i64) n,.k (.int .i64) m]=>some (some ((∀i,ax (l.getD i 0))/\((0:Int)<=n/\n<=1000000)/\(0:Int)<=m/\m<=1000000),.k (.list (.list .rq)) (aG n.toNat m.toNat λi j=>cE l (i*m.toNat+j)),[])
 | _=>none⟩
theorem asq:aqJ (cfg []) a4V:=ly agI λargs g r hn hc hg=>by
 split at hc
 ·rename_i l n m
  cases hc;obtain⟨h1,⟨h2,h3⟩,h4,h5⟩:=hg;have h2 : @LE.le Int _ 0 n:=h2;have h3 : @LE.le Int _ n 1000000:=h3;have h4 : @LE.le Int _ 0 m:=h4;have h5 : @LE.le Int _ m 1000000:=h5;obtain⟨a,rfl⟩:=Gm h2;obtain⟨b,rfl⟩:=Gm h4;exact⟨_,rfl,h1,by omega,by omega⟩
 ·cases hc
theorem arz {a:Int} (h:ax a):Sq 256 (a:Rat):=(Sq.int (k:=64) (Sm.lit (by unfold ax at h;omega)) (by omega)).le (by omega)
theorem asO {a:Int} (h:ax a):SL 256 [(a:Rat)]:=λi=>match i with
 | 0=>arz h
 | _+1=>Sq.zero _ (by omega)
def SzQ (M:LM) (k:Nat) (x:Rat):Prop:=∀s,1<=s->SM s M->Sq (s*5^k) x
structure DI (M:LM) (k:Nat) (d:Rat) (F:Nat->Nat->Rat):Prop where
 det:acb M.length (el M) k d F
 szF:∀i j,SzQ M k (F i j)
 szD:SzQ M k d
section
variable {x:List (List Rat)} {y:List Rat} {r:Rat}
end
theorem aTF {x:Rat}:x.num.sign=0↔x=0:=by
 constructor
 ·intro h;have h1:¬x<0:=λh2=>by have:=aO0.2 h2;omega
  have h3:¬0<x:=λh2=>by have:=aUp.2 h2;omega
  grind
 ·intro h;rw[h];rfl
theorem NrG.aVw {M:List (List Rat)} {is:List Bool} (h:NrG M is):(akv M is).length=M.length/\HdW M.length (aps M) (vMg M is) (ub is) (cw (akv M is))/\∃lm,OpW M.length (aps M) (vMg M is) (ub is) (cw (akv M is)) lm:=by have S:=h.start;obtain⟨a1,a2,a3⟩:=aSe (muW M.length (aps M) (vMg M is) (ub is) (cw (stP is M.length 2))+1) S.lb S.hd (tS _);obtain⟨lm,b1,_⟩:=aVW S.lb S.hd;have e:aZH M.length (aps M) (vMg M is) (ub is) (muW M.length (aps M) (vMg M is) (ub is) (cw (stP is M.length 2))+1) (stP is M.length 2)=akv M is:=S.en;rw[e] at a1 a2;rw[S.en] at b1;exact⟨a2,a1,lm,b1⟩
theorem NrG.mg {M:List (List Rat)} {is:List Bool} (h:NrG M is):MgG M is (akv M is):=by obtain⟨a1,a2,_⟩:=h.aVw;exact⟨h.right,h.len,h.n24,h.w3,h.sM,a1,(h.hd a1 a2).le (by unfold GB;omega)⟩
noncomputable def aOu (M:List (List Rat)) (is:List Bool):Rat:=dW (wyL M is (akv M is)) (wyL M is (akv M is))
noncomputable def mfE (M:List (List Rat)) (is:List Bool):Int:=if chE M is=0 then (if aOu M is=0 then 8 else 0) else chE M is
noncomputable def mfW (M:List (List Rat)) (is:List Bool):List Rat:=if mfE M is=0 then wyL M is (akv M is) else []
noncomputable def mfB (M:List (List Rat)) (is:List Bool):Rat:=if mfE M is=0 then stQ M is (akv M is) else 0
noncomputable def mfD (M:List (List Rat)) (is:List Bool):Rat:=if mfE M is=0 then aOu M is else 0
noncomputable def mfY (M:List (List Rat)) (is:List Bool):List Rat:=if mfE M is=0 then akv M is else []
theorem aVx {M:List (List Rat)} {is:List Bool} {e:Int} (h:mfE M is=e) (h0:e≠0):((mfW M is=[]/\0=mfB M is)/\0=mfD M is/\mfY M is=[])/\e=mfE M is:=by
 have hn:¬mfE M is=0:=by rw[h];exact h0
 unfold mfW mfB mfD mfY;rw[aI hn,aI hn,aI hn,aI hn];exact⟨⟨⟨rfl,rfl⟩,rfl,rfl⟩,h.symm⟩
theorem aUq {M:List (List Rat)} {is:List Bool} (h:mfE M is=0):((wyL M is (akv M is)=mfW M is/\stQ M is (akv M is)=mfB M is)/\aOu M is=mfD M is/\akv M is=mfY M is)/\0=mfE M is:=by unfold mfW mfB mfD mfY;rw[aV h,aV h,aV h,aV h];exact⟨⟨⟨rfl,rfl⟩,rfl,rfl⟩,h.symm⟩
noncomputable def LJ6:List az:=aTd::aQS::aRB::Nj::[]
theorem aV7:bd LJ6:=⟨aTz,aRt,aSp,J0,trivial⟩
noncomputable def a5A:List AV->Option (Option Prop×AV×List Ob)
 | [.k (.list (.list .q)) M,.k (.list .bool) is]=>some (some (chE M is=0->NrG M is),T2 (.agg (.cons (.agg (.cons (.k (.list .q) (mfW M is)) (.cons (.k .q (mfB M is)) .nil))) (.cons (.k .q (mfD M is)) (.cons (.k (.list .q) (mfY M is)) .nil)))) (.k (.int .i64) (mfE M is)),[])
 | _=>none
noncomputable def aT3:az:=⟨26,false,a5A⟩
noncomputable def aVy (M:List (List Rat)) (is:List Bool):bk:=⟨nU,nL,nR,nU⟩
def aT4 (M:List (List Rat)) (is:List Bool):Prop:=
 let t1:=wyL M is (akv M is);
 bif !decide (chE M is=(0:Int)) then ((mfW M is=[]/\(0:Rat)=mfB M is)/\(0:Rat)=mfD M is/\mfY M is=[])/\chE M is=mfE M is else NrG M is/\MgG M is
 (akv M is)/\Sq BQ (dW t1 t1)/\bif decide ((dW t1 t1).num.sign=(0:Int)) then ((mfW M is=[]/\(0:Rat)=mfB M is)/\(0:Rat)=mfD M is/\mfY M is=[]) /\
 (8:Int)=mfE M is else ((wyL M is (akv M is)=mfW M is/\stQ M is (akv M is)=mfB M is)/\dW t1 t1=mfD M is/\akv M is=mfY M is)/\(0:Int)=mfE M is
theorem aUH (M:List (List Rat)) (is:List Bool):aw LJ6 [] (aVy M is) Tryz.f26 (T2 (.agg (.cons (.agg (.cons (.k (.list .q) (mfW M is)) (.cons (.k .q (mfB M is)) .nil))) (.cons (.k .q (mfD M is)) (.cons (.k (.list .q) (mfY M is)) .nil)))) (.k (.int .i64) (mfE M is))) [.k (.list (.list .q)) M,.k (.list .bool) is]=aT4 M is:=by kernel_rfl
theorem aUI (M:List (List Rat)) (is:List Bool) (hg:chE M is=0->NrG M is):aT4 M is:=by
 unfold aT4;dsimp only;refine dP (λh=>aVx (aI h) h) λh=>?_
 have g:=hg h;have hd:Sq 700000000 (dW (wyL M is (akv M is)) (wyL M is (akv M is))):=aVi g.mg.sw g.mg.sw g.mg.lw (by omega);refine⟨g,g.mg,hd.le (by unfold BQ;omega),aH (λh2=>?_) λh2=>?_⟩
 ·have e:mfE M is=8:=by
   unfold mfE;rw[aV h];exact aV (aTF.1 h2)
  exact aVx e (by decide)
 ·have e:mfE M is=0:=by
   unfold mfE;rw[aV h];exact aI λh3=>h2 (aTF.2 h3)
  exact aUq e
theorem aRD:aqJ (cfg []) aT3:=cf aV7 bp Tryz.func26 λa _ _ _ hc hg hf=>by change a5A a=_ at hc;unfold a5A at hc;split at hc<;>cases hc;cases aY (aUH _ _) (aUI _ _ hg);exact⟨rfl,by kernel_rfl,_,by assumption⟩
def knM:List (List Rat):=[[((0:Int):Rat)],[((2:Int):Rat)]]
def knS:List Bool:=[false,true]
theorem aXY:chE knM knS=0:=by
 have h1:Shp knM knS:=⟨rfl,by decide,by decide,rfl⟩
 unfold chE;rw[aV h1,aI (by decide)];exact aI λh=>absurd (h 1 (by decide)) (by decide)
theorem aVz:NrG knM knS:=by
 have i0:ax 0:=by unfold ax;omega
 have i2:ax 2:=by unfold ax;omega
 refine⟨rfl,rfl,by decide,by decide,λi=>match i with
  | 0=>asO i0
  | 1=>asO i2
  | _+2=>SL.nil (by omega),λi j=>match i,j with
  | 0,0=>⟨0,by decide,by kernel_rfl⟩
  | 0,_+1=>⟨0,by decide,by kernel_rfl⟩
  | 1,0=>⟨24,by decide,by kernel_rfl⟩
  | 1,_+1=>⟨0,by decide,by kernel_rfl⟩
  | _+2,_=>⟨0,by decide,by kernel_rfl⟩,λt=>match t with
  | true=>⟨1,by decide,rfl⟩
  | false=>⟨0,by decide,rfl⟩⟩
theorem aV8:cw (akv knM knS) 0=1/\cw (akv knM knS) 1=1:=by obtain⟨_,_,lm,h⟩:=aVz.aVw;have h0:0+(if ub knS 0=false then cw (akv knM knS) 0 else 0)+(if ub knS 1=false then cw (akv knM knS) 1 else 0)=1:=h.sum false;have h1:0+(if ub knS 0=true then cw (akv knM knS) 0 else 0)+(if ub knS 1=true then cw (akv knM knS) 1 else 0)=1:=h.sum true;rw[aV (show ub knS 0=false from rfl),aI (show ¬ub knS 1=false by decide)] at h0;rw[aI (show ¬ub knS 0=true by decide),aV (show ub knS 1=true from rfl)] at h1;exact⟨by grind,by grind⟩
theorem aVA:ptS knM knS (akv knM knS) true 2 0=2/\ptS knM knS (akv knM knS) false 2 0=0:=by
 obtain⟨h0,h1⟩:=aV8;have e0:el knM 0 0=0:=by kernel_rfl
 have e1:el knM 1 0=2:=by kernel_rfl
 constructor
 ·show 0+(if ub knS 0=true then el knM 0 0*cw (akv knM knS) 0 else 0)+(if ub knS 1=true then el knM 1 0*cw (akv knM knS) 1 else 0)=2;rw[aI (show ¬ub knS 0=true by decide),aV (show ub knS 1=true from rfl),h1,e1];grind
 ·show 0+(if ub knS 0=false then el knM 0 0*cw (akv knM knS) 0 else 0)+(if ub knS 1=false then el knM 1 0*cw (akv knM knS) 1 else 0)=0;rw[aV (show ub knS 0=false from rfl),aI (show ¬ub knS 1=false by decide),h0,e0];grind
theorem aVB (t:Bool):ptL knM knS (akv knM knS) t=[ptS knM knS (akv knM knS) t 2 0]:=rfl
theorem aVC:wyL knM knS (akv knM knS)=[2]:=by obtain⟨h0,h1⟩:=aVA;have e:wyL knM knS (akv knM knS)=[ptS knM knS (akv knM knS) true 2 0-ptS knM knS (akv knM knS) false 2 0]:=rfl;rw[e,h0,h1];congr 1;grind
theorem aV9:mfE knM knS=0/\mfW knM knS=[2]/\mfB knM knS = -2/\mfD knM knS=4:=by
 have hd:aOu knM knS=4:=by unfold aOu;rw[aVC];kernel_rfl
 have he:mfE knM knS=0:=by unfold mfE;rw[aV aXY,hd];exact aI (by decide)
 obtain⟨⟨⟨a1,a2⟩,a3,_⟩,_⟩:=aUq he;refine⟨he,by rw[<-a1];exact aVC,?_,by rw[<-a3];exact hd⟩;rw[<-a2];unfold stQ;obtain⟨h0,h1⟩:=aVA;rw[aVB,aVB,h0,h1];kernel_rfl
noncomputable def LJ7:List az:=aa5::aa9::aT3::[]
theorem aWa:bd LJ7:=⟨V5,WS,aRD,trivial⟩
def a3I:List AV->Option (Option Prop×AV×List Ob)
 | []=>some (none,.k .bool true,[])
 | _=>none
def aTG:az:=⟨13,false,a3I⟩
def aT5 : bk:=⟨nU,nL,nR,nU⟩
def aQT : Prop:=
 let t1:=mfW [[(↑(0:Int):Rat)],[(↑(2:Int):Rat)]] [false,true];
 ax (0:Int)/\ax (2:Int)/\(chE [[(↑(0:Int):Rat)],[(↑(2:Int):Rat)]] [false,true]=(0:Int)->NrG [[(↑(0:Int):Rat)],[(↑(2:Int):Rat)]] [false,
 true])/\(t1.length<=aB->((0:Int)<=(0:Int)/\(0:Int)<(↑t1.length:Int))/\(Sq BQ (t1.getD (Int.toNat (0:Int)) (0:Rat))/\ax (2:Int)/\ax (1:Int)
 /\ (1:Int)≠(0:Int))/\(Sq BQ (mfB [[(↑(0:Int):Rat)],[(↑(2:Int):Rat)]] [false,true])/\ax (-2:Int)/\ax (1:Int)/\(1:Int)≠(0:Int))/\(Sq BQ
 (mfD [[(↑(0:Int):Rat)],[(↑(2:Int):Rat)]] [false,true])/\ax (4:Int)/\ax (1:Int)/\(1:Int)≠(0:Int))/\decide (mfD [[(↑(0:Int):Rat)],[(↑(2 :
 Int):Rat)]] [false,true]=(↑(4:Int):Rat)/(↑(1:Int):Rat))=true)
theorem aTH : aw LJ7 [] (aT5) Tryz.f13 (.k .bool true) []=aQT :=by kernel_rfl
theorem aTJ (hf:cJ []):aQT :=by
 obtain⟨e0,e1,e2,e3⟩:=aV9;have i0:ax 0:=by unfold ax;omega
 have i1:ax 1:=by unfold ax;omega
 have i2:ax 2:=by unfold ax;omega
 have im:ax (-2):=by unfold ax;omega
 have i4:ax 4:=by unfold ax;omega
 have hB:(256:Nat)<=BQ:=by unfold BQ;omega
 unfold aQT;dsimp only;change ax 0/\ax 2/\(chE knM knS=0->NrG knM knS)/\((mfW knM knS).length<=aB->(_/\(0:Int)<((mfW knM knS).length:Int))/\(Sq BQ ((mfW knM knS).getD _ 0)/\_)/\(Sq BQ (mfB knM knS)/\_)/\(Sq BQ (mfD knM knS)/\_)/\decide (mfD knM knS=_)=true)
 rw[e1,e2,e3];exact⟨i0,i2,λ_=>aVz,λ_=>⟨⟨by omega,by decide⟩,⟨(arz i2).le hB,i2,i1,by decide⟩,⟨(arz im).le hB,im,i1,by decide⟩,⟨(arz i4).le hB,i4,i1,by decide⟩,by kernel_rfl⟩⟩
theorem aTK:aqJ (cfg []) aTG:=cf aWa bp Tryz.func13 λa _ _ _ hc hg hf=>by change a3I a=_ at hc;unfold a3I at hc;split at hc<;>cases hc;cases aY (aTH) (aTJ hf);exact⟨rfl,by kernel_rfl,_,by assumption⟩
noncomputable def LJ8:List az:=ye::[]
theorem aWb:bd LJ8:=⟨uA,trivial⟩
def a3J:List AV->Option (Option Prop×AV×List Ob)
 | [.k (.list (.list .rq)) M]=>some (none,.k .bool (bif as3 M then (bif decide (M.length<=300) then decide (aps M<=20) else false) else false),[])
 | _=>none
def aTL:az:=⟨41,false,a3J⟩
def aT6 (M:List (List Rat)):bk:=⟨nU,nL,nR,nU⟩
def aQY (M:List (List Rat)):Prop:=bif as3 M then M.length<=aB->bif decide ((↑M.length:Int)<=(300:Int)) then ((0:Int)<=(0:Int)/\(0:Int)<(↑M.length:Int))/\((M.getD (Int.toNat (0 :
 Int)) []).length<=aB->decide ((↑(M.getD (Int.toNat (0:Int)) []).length:Int)<=(20:Int))=bif as3 M then bif decide (M.length<=(300:Nat)) then decide
 (aps M<=(20:Nat)) else false else false) else false=bif as3 M then bif decide (M.length<=(300:Nat)) then decide (aps M<=(20:Nat)) else false else false
 else false=bif as3 M then bif decide (M.length<=(300:Nat)) then decide (aps M<=(20:Nat)) else false else false
theorem aTM (M:List (List Rat)):aw LJ8 [] (aT6 M) Tryz.f41 (.k .bool (bif as3 M then (bif decide (M.length<=300) then decide (aps M<=20) else false) else false)) [.k (.list (.list .rq)) M]=aQY M:=by kernel_rfl
theorem aTN (M:List (List Rat)) (hf:cJ [.k (.list (.list .rq)) M]):aQY M:=by
 unfold aQY
 cases hR:as3 M with
 | false=>rfl
 | true=>
  obtain⟨m1,m2,m3⟩:=ba hR;simp only[iQ];refine λ_=>aH (λh=>⟨⟨by omega,by omega⟩,λ_=>?_⟩) λh=>?_
  ·rw[kx (show M.length<=300 by omega),iQ];exact yw.2 (by show((aps M:Nat):Int)<=20↔aps M<=20;omega)
  ·rw[eJ (show ¬M.length<=300 by omega),qY]
theorem aTO:aqJ (cfg []) aTL:=cf aWb bp Tryz.func41 λa _ _ _ hc hg hf=>by change a3J a=_ at hc;unfold a3J at hc;split at hc<;>cases hc;cases aY (aTM _) (aTN _ hf);exact⟨rfl,by kernel_rfl,_,by assumption⟩
noncomputable def LJ9:List az:=aTL::[]
theorem aWc:bd LJ9:=⟨aTO,trivial⟩
def a3K:List AV->Option (Option Prop×AV×List Ob)
 | [.k (.list (.list .rq)) M,.k (.list .bool) is]=>some (none,.k (.int .i64) (chE M is),[])
 | _=>none
def aTP:az:=⟨12,false,a3K⟩
def aT7 (M:List (List Rat)) (is:List Bool):bk:=⟨λkey_=>match key_ with | 8=>7 | _=>0,λkey_=>match key_ with
 | 6=>some (⟨Nat,λi=>[(1,.k (.list .bool) is),(5,.k (.int .i64) ((i+1:Nat):Int))],
 λ_=>[],λ_ i=>i+1<=is.length/\1<=is.length/\∀j,j<i+1->ub is j=ub is 0,λi=>is.length-i⟩) | _=>none,nR,nU⟩
def aQ0 (M:List (List Rat)) (is:List Bool):Prop:=bif !bif as3 M then bif decide (M.length<=(300:Nat)) then decide (aps M<=(20:Nat)) else false else false then (5:Int)=chE M is else is.length<=aB ->
 M.length<=aB->bif !decide ((↑is.length:Int)=(↑M.length:Int)) then (5:Int)=chE M is else M.length<=aB->bif decide ((24:Int)<(↑M.length:Int)) then (4
 : Int)=chE M is else ∃(x0:Nat),(is=is/\(1:Int)=(↑(x0+(1:Nat)):Int))/\(x0+(1:Nat)<=is.length/\(1:Nat)<=is.length/\∀(j:Nat),j<x0+(1 :
 Nat)->ub is j=ub is (0:Nat))/\∀(x:Nat),let u1:=(↑(x+(1:Nat)):Int);(x+(1:Nat)<=is.length/\(1:Nat)<=is.length/\∀(j:Nat),j<x+(1:Nat) ->
 ub is j=ub is (0:Nat))->is.length<=aB->bif decide (u1<(↑is.length:Int)) then ((0:Int)<=u1/\u1<(↑is.length:Int))/\((0:Int)<=(0:Int)/\(0:Int) <
 (↑is.length:Int))/\bif !is.getD u1.toNat false == is.getD (Int.toNat (0:Int)) false then (0:Int)=chE M is else ax (u1+(1:Int))/\∃(x':Nat),(is=is /\
 u1+(1:Int)=(↑(x'+(1:Nat)):Int))/\(x'+(1:Nat)<=is.length/\(1:Nat)<=is.length/\∀(j:Nat),j<x'+(1:Nat)->ub is j=ub is (0:Nat)) /\
 is.length-x'<is.length-x else (7:Int)=chE M is
theorem aTQ (M:List (List Rat)) (is:List Bool):aw LJ9 [] (aT7 M is) Tryz.f12 (.k (.int .i64) (chE M is)) [.k (.list (.list .rq)) M,.k (.list .bool) is]=aQ0 M is:=by kernel_rfl
theorem aTR (M:List (List Rat)) (is:List Bool) (hf:cJ [.k (.list (.list .rq)) M,.k (.list .bool) is]):aQ0 M is:=by
 have no:¬Shp M is->(5:Int)=chE M is:=λh=>(aI h).symm;unfold aQ0
 cases hL:(bif as3 M then bif decide (M.length<=300) then decide (aps M<=20) else false else false) with
 | false=>exact no λhs=>by rw[hs.1,iQ,kx hs.2.1,iQ,kx hs.2.2.1] at hL;cases hL
 | true=>
  have h3:as3 M=true/\M.length<=300/\aps M<=20:=by
   cases hR:as3 M with
   | false=>rw[hR] at hL;cases hL
   | true=>
    rw[hR,iQ] at hL
    cases h4:decide (M.length<=300) with
    | false=>rw[h4] at hL;cases hL
    | true=>rw[h4,iQ] at hL;exact⟨rfl,AD h4,AD hL⟩
  rw[show(!true)=false from rfl,qY];refine λ_ _=>dP (λh=>no λhs=>h (by have:=hs.2.2.2;omega)) λh _=>?_;have hS:Shp M is:=⟨h3.1,h3.2.1,h3.2.2,by omega⟩
  have eC:chE M is=if 24<M.length then 4 else chI is:=aV hS
  have hp:=(ba h3.1).1;rw[eC];refine aH (λh6=>(aV (by omega)).symm) λh6=>?_;rw[aI (by omega)];refine⟨0,⟨rfl,rfl⟩,⟨by omega,by omega,λj hj=>by rw[show j=0 by omega]⟩,λi ⟨hi,h1,bB⟩ _=>aH (λh7=>?_) λh7=>?_⟩
  ·have hi':i+1<is.length:=by omega
   refine⟨⟨by omega,h7⟩,⟨by omega,by omega⟩,?_⟩;change bif !(ub is (i+1) == ub is 0) then _ else _
   cases e:(ub is (i+1) == ub is 0) with
   | false=>show(0:Int)=chI is;exact(aI λhf=>by rw[hf (i+1) hi',beq_self_eq_true] at e;cases e).symm
   | true=>
    rw[show(!true)=false from rfl,qY];refine⟨by unfold ax;omega,i+1,⟨rfl,rfl⟩,⟨by omega,h1,λj hj=>?_⟩,by omega⟩;rcases cM j (i+1) with h4 | h4
    ·exact bB j h4
    ·rw[show j=i+1 by omega];exact LF e
  ·exact(aV λj hj=>bB j (by omega)).symm
theorem aTS:aqJ (cfg []) aTP:=cf aWc bp Tryz.func12 λa _ _ _ hc hg hf=>by change a3K a=_ at hc;unfold a3K at hc;split at hc<;>cases hc;cases aY (aTQ _ _) (aTR _ _ hf);exact⟨rfl,by kernel_rfl,_,by assumption⟩
def joB (M:List (List Rat)) (is:List Bool) (b:List Rat):Bool:=bif decide (WtP b is) then decide (ptL M is b true=ptL M is b false) else false
def PrP (M:List (List Rat)) (is:List Bool) (W:List Rat) (B D:Rat) (Y:List Rat):Prop:=WtP Y is/\W=wyL M is Y/\B=stQ M is Y/\D=dW (wyL M is Y) (wyL M is Y)/\0<D/\∀i,i<M.length->aGr M is Y i=false
instance (M:List (List Rat)) (is:List Bool) (W:List Rat) (B D:Rat) (Y:List Rat):Decidable (PrP M is W B D Y):=by unfold PrP;infer_instance
def PrC (M:List (List Rat)) (is:List Bool) (W:List Rat) (B D:Rat) (Y:List Rat):Prop:=chE M is=0/\PrP M is W B D Y
instance (M:List (List Rat)) (is:List Bool) (W:List Rat) (B D:Rat) (Y:List Rat):Decidable (PrC M is W B D Y):=by unfold PrC;infer_instance
def SlP (W V:List Rat) (B A:Rat):Prop:=W=V/\B=A
instance (W V:List Rat) (B A:Rat):Decidable (SlP W V B A):=by unfold SlP;infer_instance
def SmP (W V:List Rat) (B A D E:Rat):Prop:=W=V/\B=A/\D=E
instance (W V:List Rat) (B A D E:Rat):Decidable (SmP W V B A D E):=by unfold SmP;infer_instance
structure NyG (M:List (List Rat)) (is:List Bool) (b:List Rat):Prop where
 nr:chE M is=0->NrG M is
 n24:b.length<=24
 sb:SL GB b
theorem NyG.mg {M:List (List Rat)} {is:List Bool} {b:List Rat} (h:NyG M is b) (h0:chE M is=0) (hw:WtP b is):MgG M is b:=by have g:=h.nr h0;exact⟨g.right,g.len,g.n24,g.w3,g.sM,by rw[hw.1,g.len],h.sb⟩
noncomputable def aZM:List az:=ND::Ke::[]
theorem aZx:bd aZM:=⟨KP,z7,trivial⟩
def a3L:List AV->Option (Option Prop×AV×List Ob)
 | [.agg (.cons (.k (.list .q) W) (.cons (.k .q B) .nil)),.agg (.cons (.k (.list .q) V) (.cons (.k .q A) .nil))]=>some (some ((SL BQ W/\SL BQ V)/\Sq BQ B/\Sq BQ A),.k .bool (decide (SlP W V B A)),[])
 | _=>none
def aYc:az:=⟨81,false,a3L⟩
def aYU (W:List Rat) ( B:Rat) (V:List Rat) ( A:Rat):bk:=⟨nU,nL,nR,nU⟩
def aXa (W:List Rat) ( B:Rat) (V:List Rat) ( A:Rat):Prop:=(SL BQ W/\SL BQ V)/\bif decide (W=V) then (Sq BQ B/\Sq BQ A)/\decide (fS B A=(0:Int))=decide (SlP W V B A) else false=decide (SlP W V B A)
theorem aYd (W:List Rat) ( B:Rat) (V:List Rat) ( A:Rat):aw aZM [] (aYU W B V A) Tryz.f81 (.k .bool (decide (SlP W V B A))) [.agg (.cons (.k (.list .q) W) (.cons (.k .q B) .nil)),.agg (.cons (.k (.list .q) V) (.cons (.k .q A) .nil))]=aXa W B V A:=by kernel_rfl
theorem aYg (W:List Rat) ( B:Rat) (V:List Rat) ( A:Rat) (hg:(SL BQ W/\SL BQ V)/\Sq BQ B/\Sq BQ A):aXa W B V A:=by obtain⟨h1,h2⟩:=hg;unfold aXa;refine⟨h1,aH (λe=>⟨h2,yw.2 ⟨λh=>⟨e,gz.1 h⟩,λh=>gz.2 h.2⟩⟩) λe=>(eJ λh=>e h.1).symm⟩
theorem aYh:aqJ (cfg []) aYc:=cf aZx bp Tryz.func81 λa _ _ _ hc hg hf=>by change a3L a=_ at hc;unfold a3L at hc;split at hc<;>cases hc;cases aY (aYd _ _ _ _) (aYg _ _ _ _ hg);exact⟨rfl,by kernel_rfl,_,by assumption⟩
noncomputable def a0g:List az:=aYc::Ke::[]
theorem aZN:bd a0g:=⟨aYh,z7,trivial⟩
def a3M:List AV->Option (Option Prop×AV×List Ob)
 | [.agg (.cons (.agg (.cons (.k (.list .q) W) (.cons (.k .q B) .nil))) (.cons (.k .q D) (.cons (.k (.list .q) Y) .nil))),.agg (.cons (.agg (.cons (.k (.list .q) V) (.cons (.k .q A) .nil))) (.cons (.k .q E) (.cons (.k (.list .q) Z) .nil)))]=>some (some (((SL BQ W/\SL BQ V)/\Sq BQ B/\Sq BQ A)/\Sq BQ D/\Sq BQ E),.k .bool (decide (SmP W V B A D E)),[])
 | _=>none
def aYi:az:=⟨50,false,a3M⟩
def aYV (W:List Rat) ( B D:Rat) ( Y V:List Rat) ( A E:Rat) ( Z:List Rat):bk:=⟨nU,nL,nR,nU⟩
def aXb (W:List Rat) ( B D:Rat) ( Y V:List Rat) ( A E:Rat) ( Z:List Rat):Prop:=((SL BQ W/\SL BQ V)/\Sq BQ B/\Sq BQ A)/\bif decide (SlP W V B A) then (Sq BQ D/\Sq BQ E)/\decide (fS D E=(0:Int))=decide (SmP W V B A D E) else false =
 decide (SmP W V B A D E)
theorem aYj (W:List Rat) ( B D:Rat) ( Y V:List Rat) ( A E:Rat) ( Z:List Rat):aw a0g [] (aYV W B D Y V A E Z) Tryz.f50 (.k .bool (decide (SmP W V B A D E))) [.agg (.cons (.agg (.cons (.k (.list .q) W) (.cons (.k .q B) .nil))) (.cons (.k .q D) (.cons (.k (.list .q) Y) .nil))),.agg (.cons (.agg (.cons (.k (.list .q) V) (.cons (.k .q A) .nil))) (.cons (.k .q E) (.cons (.k (.list .q) Z) .nil)))]=aXb W B D Y V A E Z:=by kernel_rfl
theorem aYk (W:List Rat) ( B D:Rat) ( Y V:List Rat) ( A E:Rat) ( Z:List Rat) (hg:((SL BQ W/\SL BQ V)/\Sq BQ B/\Sq BQ A)/\Sq BQ D/\Sq BQ E) (hf:cJ [.agg (.cons (.agg (.cons (.k (.list .q) W) (.cons (.k .q B) .nil))) (.cons (.k .q D) (.cons (.k (.list .q) Y) .nil))),.agg (.cons (.agg (.cons (.k (.list .q) V) (.cons (.k .q A) .nil))) (.cons (.k .q E) (.cons (.k (.list .q) Z) .nil)))]):aXb W B D Y V A E Z:=by obtain⟨h1,h2⟩:=hg;unfold aXb;refine⟨h1,aH (λe=>⟨h2,yw.2 ⟨λh=>⟨e.1,e.2,gz.1 h⟩,λh=>gz.2 h.2.2⟩⟩) λe=>(eJ λh=>e ⟨h.1,h.2.1⟩).symm⟩
theorem aYl:aqJ (cfg []) aYi:=cf aZN bp Tryz.func50 λa _ _ _ hc hg hf=>by change a3M a=_ at hc;unfold a3M at hc;split at hc<;>cases hc;cases aY (aYj _ _ _ _ _ _ _ _) (aYk _ _ _ _ _ _ _ _ hg hf);exact⟨rfl,by kernel_rfl,_,by assumption⟩
noncomputable def aZe:List az:=aYi::aTd::aWJ::aRA::aVm::aRB::ND::Nj::Ke::[]
theorem aXc:bd aZe:=⟨aYl,aTz,aW8,aSj,aUE,aSp,KP,J0,z7,trivial⟩
def a3N:List AV->Option (Option Prop×AV×List Ob)
 | [.k (.list .q) b,.k (.list (.list .q)) M,.k (.list .bool) is]=>some (some (NyG M is b),.k .bool (bif decide (chE M is=0) then joB M is b else false),[])
 | _=>none
def aXd:az:=⟨14,false,a3N⟩
def aYW (b:List Rat) (M:List (List Rat)) (is:List Bool):bk:=⟨nU,nL,nR,nU⟩
def aXe (b:List Rat) (M:List (List Rat)) (is:List Bool):Prop:=bif !decide (chE M is=(0:Int)) then false=bif decide (chE M is=(0:Int)) then joB M is b else false else (b.length<=(24:Nat)/\SL GB b)/\bif !decide (WtP b
 is) then false=bif decide (chE M is=(0:Int)) then joB M is b else false else MgG M is b/\(SL BQ (ptL M is b true)/\SL BQ (ptL M is b false))/\decide (ptL M is b
 true=ptL M is b false)=bif decide (chE M is=(0:Int)) then joB M is b else false
theorem aYm (b:List Rat) (M:List (List Rat)) (is:List Bool):aw aZe [] (aYW b M is) Tryz.f14 (.k .bool (bif decide (chE M is=0) then joB M is b else false)) [.k (.list .q) b,.k (.list (.list .q)) M,.k (.list .bool) is]=aXe b M is:=by kernel_rfl
theorem aYn (b:List Rat) (M:List (List Rat)) (is:List Bool) (hg:NyG M is b):aXe b M is:=by have n1:=hg.n24;have n2:=hg.sb;unfold aXe;refine dP (λh=>by rw[eJ h,qY]) λh=>?_;rw[kx h,iQ];unfold joB;refine⟨⟨n1,n2⟩,dP (λh2=>by rw[eJ h2,qY]) λh2=>?_⟩;rw[kx h2,iQ];have g:=hg.mg h h2;exact⟨g,⟨(g.sp true).le (by unfold BQ;omega),(g.sp false).le (by unfold BQ;omega)⟩,rfl⟩
theorem aWL:aqJ (cfg []) aXd:=cf aXc bp Tryz.func14 λa _ _ _ hc hg hf=>by change a3N a=_ at hc;unfold a3N at hc;split at hc<;>cases hc;cases aY (aYm _ _ _) (aYn _ _ _ hg);exact⟨rfl,by kernel_rfl,_,by assumption⟩
def a3O:List AV->Option (Option Prop×AV×List Ob)
 | [.agg (.cons (.agg (.cons (.k (.list .q) W) (.cons (.k .q B) .nil))) (.cons (.k .q D) (.cons (.k (.list .q) Y) .nil))),.k (.list (.list .q)) M,.k (.list .bool) is]=>some (some (NyG M is Y/\SL BQ W/\Sq BQ B/\Sq BQ D),.k .bool (decide (PrC M is W B D Y)),[])
 | _=>none
def aYo:az:=⟨18,false,a3O⟩
def aYX (W:List Rat) ( B D:Rat) ( Y:List Rat) (M:List (List Rat)) (is:List Bool):bk:=⟨λkey_=>match key_ with | 3=>6 | _=>0,λkey_=>match key_ with
 | 8=>some (⟨Nat,λi=>[(2,.k (.list .bool) is),(7,.k (.list .q) (ptL M is Y true)),(8,.k (.list .q) (ptL M is Y false)),(9,.k (.list .q) W),(48,.k (.list (.list .q)) M),(49,.k (.int .i64) ((M.length:Nat):Int)),(50,.k (.int .i64) ((i:Nat):Int))],
 λ_=>[],λ_ i=>i<=M.length/\∀j,j<i->aGr M is Y j=false,λi=>M.length-i⟩) | _=>none,nR,nU⟩
def aUS (W:List Rat) ( B D:Rat) ( Y:List Rat) (M:List (List Rat)) (is:List Bool) (x:Nat):Prop:=((0:Int)<=(x:Int)/\(x:Int)<(↑is.length:Int))/\bif !is.getD (x:Int).toNat false then (W.length=(M.getD (x:Int).toNat []).length/\lM W (M.getD (↑x
 : Int).toNat []))/\(W.length=(ptL M is Y false).length/\lM W (ptL M is Y false))/\(Sq BQ (dW W (M.getD (x:Int).toNat []))/\Sq BQ (dW W (ptL M is Y false)))
 /\ bif decide ((0:Int)<fS (dW W (M.getD (x:Int).toNat [])) (dW W (ptL M is Y false))) then false=decide (PrC M is W B D Y) else ax ((x:Int)+(1 :
 Int))/\∃(x':Nat),(is=is/\ptL M is Y true=ptL M is Y true/\ptL M is Y false=ptL M is Y false/\W=W/\M=M/\(↑M.length:Int)=(↑M.length:Int)/\(↑x :
 Int)+(1:Int)=(x':Int))/\(x'<=M.length/\∀(j:Nat),j<x'->aGr M is Y j=false)/\M.length-x'<M.length-x else ax ((x:Int)+(1:Int))/\∃(x'
 : Nat),(is=is/\ptL M is Y true=ptL M is Y true/\ptL M is Y false=ptL M is Y false/\W=W/\M=M/\(↑M.length:Int)=(↑M.length:Int)/\(x:Int)+(1 :
 Int)=(x':Int))/\(x'<=M.length/\∀(j:Nat),j<x'->aGr M is Y j=false)/\M.length-x'<M.length-x
def aXf (W:List Rat) ( B D:Rat) ( Y:List Rat) (M:List (List Rat)) (is:List Bool):Prop:=bif !decide (chE M is=(0:Int)) then false=decide (PrC M is W B D Y) else (Y.length<=(24:Nat)/\SL GB Y)/\bif !decide (WtP Y is) then false=decide (PrC M is W
 B D Y) else MgG M is Y/\(((SL BQ W/\SL BQ (wyL M is Y))/\Sq BQ B/\Sq BQ (stQ M is Y))/\Sq BQ D/\Sq BQ (dW (wyL M is Y) (wyL M is Y)))/\bif !decide (SmP W (wyL M
 is Y) B (stQ M is Y) D (dW (wyL M is Y) (wyL M is Y))) then false=decide (PrC M is W B D Y) else Sq BQ D/\bif decide (D.num.sign<=(0:Int)) then false=decide
 (PrC M is W B D Y) else MgG M is Y/\(M.length<=aB->∃(x0:Nat),(is=is/\ptL M is Y true=ptL M is Y true/\ptL M is Y false=ptL M is Y false/\W=W/\M=M /\
 (↑M.length:Int)=(↑M.length:Int)/\(0:Int)=(x0:Int))/\(x0<=M.length/\∀(j:Nat),j<x0->aGr M is Y j=false)/\∀(x:Nat),
 let u1:=M.getD (x:Int).toNat [];(x<=M.length/\∀(j:Nat),j<x->aGr M is Y j=false)->bif decide ((x:Int)<(↑M.length:Int)) then ((0:Int)<=(↑x :
 Int)/\(x:Int)<(↑M.length:Int))/\((0:Int)<=(x:Int)/\(x:Int)<(↑is.length:Int))/\bif is.getD (x:Int).toNat false then (W.length=u1.length/\lM
 W u1)/\(W.length=(ptL M is Y true).length/\lM W (ptL M is Y true))/\(Sq BQ (dW W u1)/\Sq BQ (dW W (ptL M is Y true)))/\bif decide (fS (dW W u1) (dW W
 (ptL M is Y true))<(0:Int)) then false=decide (PrC M is W B D Y) else aUS W B D Y M is x else aUS W B D Y M is x else true=decide (PrC M is W B D Y))
theorem aYp (W:List Rat) ( B D:Rat) ( Y:List Rat) (M:List (List Rat)) (is:List Bool):aw aZe [] (aYX W B D Y M is) Tryz.f18 (.k .bool (decide (PrC M is W B D Y))) [.agg (.cons (.agg (.cons (.k (.list .q) W) (.cons (.k .q B) .nil))) (.cons (.k .q D) (.cons (.k (.list .q) Y) .nil))),.k (.list (.list .q)) M,.k (.list .bool) is]=aXf W B D Y M is:=by kernel_rfl
theorem aYq (W:List Rat) ( B D:Rat) ( Y:List Rat) (M:List (List Rat)) (is:List Bool) (hg:NyG M is Y/\SL BQ W/\Sq BQ B/\Sq BQ D):aXf W B D Y M is:=by
 obtain⟨hy,sW,sB,sD⟩:=hg;have n1:=hy.n24;have n2:=hy.sb;unfold aXf;dsimp only;refine dP (λh=>(eJ λe=>h e.1).symm) λh=>⟨⟨n1,n2⟩,dP (λh2=>(eJ λe=>h2 e.2.1).symm) λh2=>?_⟩
 have g:=hy.mg h h2;obtain⟨m1,m2,m3⟩:=ba g.right;have hl:=g.len;have h24:=g.n24;have hd:∀t,Sq 700000000 (dW (ptL M is Y t) (ptL M is Y t)):=λt=>aVi (g.sp t) (g.sp t) (g.lp t) (by omega);have hw:Sq 700000000 (dW (wyL M is Y) (wyL M is Y)):=aVi g.sw g.sw g.lw (by omega);have hs:Sq BQ (stQ M is Y):=by unfold stQ;exact(((hd false).sub (hd true)).div (k:=64) Sq.atH (by decide)).le (by unfold BQ;omega)
 have hp:∀t,Sq BQ (dW (wyL M is Y) (ptL M is Y t)):=λt=>(aVi g.sw (g.sp t) g.lw (by omega)).le (by unfold BQ;omega);have hr:∀i,Sq BQ (dW (wyL M is Y) (M.getD i [])):=λi=>(aVi g.sw (g.sM i) g.lw (by omega)).le (by unfold BQ;omega);refine⟨g,⟨⟨⟨sW,g.sw.le (by unfold BQ;omega)⟩,sB,hs⟩,sD,hw.le (by unfold BQ;omega)⟩,dP (λh3=>(eJ λe=>h3 ⟨e.2.2.1,e.2.2.2.1,e.2.2.2.2.1⟩).symm) λh3=>?_⟩;obtain⟨rfl,rfl,rfl⟩:=h3;refine⟨sD,aH (λh4=>(eJ λe=>?_).symm) λh4=>?_⟩
 ·have:=aUp.2 e.2.2.2.2.2.1;omega
 have hD:0<dW (wyL M is Y) (wyL M is Y):=aUp.1 (by omega);refine⟨g,λ_=>⟨0,⟨rfl,rfl,rfl,rfl,rfl,rfl,rfl⟩,⟨fi _,λj hj=>absurd hj (ia j)⟩,λk ⟨hk,bB⟩=>aH (λh5=>?_) λh5=>(kx ⟨h,h2,rfl,rfl,rfl,hD,λj hj=>bB j (by omega)⟩).symm⟩⟩;have sF:k<M.length:=by omega
 have nT:aGr M is Y k=false->∀j,j<k+1->aGr M is Y j=false:=λh6 j hj=>by
  rcases cM j k with h7 | h7
  ·exact bB j h7
  ·rw[show j=k by omega];exact h6
 have aYr:aGr M is Y k=true->false=decide (PrC M is (wyL M is Y) (stQ M is Y) (dW (wyL M is Y) (wyL M is Y)) Y):=λh6=>(eJ λe=>by have:=e.2.2.2.2.2.2 k sF;rw[h6] at this;cases this).symm;refine⟨⟨by omega,h5⟩,⟨by omega,by omega⟩,?_⟩;unfold aUS;rw[show is.getD ((k:Nat):Int).toNat false=ub is k from rfl,show M.getD ((k:Nat):Int).toNat []=M.getD k [] from rfl];have rl:(wyL M is Y).length=(M.getD k []).length:=by rw[aVh];exact(m3 k sF).symm
 have dr:lM (wyL M is Y) (M.getD k []):=aSg g.sw (g.sM k) g.lw (by omega);have pl:∀t,(wyL M is Y).length=(ptL M is Y t).length:=λt=>by rw[aVh,aQP]
 have dp:∀t,lM (wyL M is Y) (ptL M is Y t):=λt=>aSg g.sw (g.sp t) g.lw (by omega)
 cases e:ub is k with
 | true=>refine⟨⟨rl,dr⟩,⟨pl true,dp true⟩,⟨hr k,hp true⟩,aH (λh6=>aYr (by unfold aGr;rw[aV e];exact kx (aUR.1 h6))) λh6=>⟨⟨by omega,by omega⟩,?_⟩⟩;rw[show(!true)=false from rfl,qY];exact⟨by unfold ax;omega,k+1,⟨rfl,rfl,rfl,rfl,rfl,rfl,rfl⟩,⟨sF,nT (by unfold aGr;rw[aV e];exact eJ λh7=>h6 (aUR.2 h7))⟩,by omega⟩
 | false=>
  refine⟨⟨by omega,by omega⟩,?_⟩;rw[show(!false)=true from rfl,iQ];have en:¬ub is k=true:=by rw[e];decide
  exact⟨⟨rl,dr⟩,⟨pl false,dp false⟩,⟨hr k,hp false⟩,aH (λh6=>aYr (by unfold aGr;rw[aI en];exact kx (aWO.1 h6))) λh6=>⟨by unfold ax;omega,k+1,⟨rfl,rfl,rfl,rfl,rfl,rfl,rfl⟩,⟨sF,nT (by unfold aGr;rw[aI en];exact eJ λh7=>h6 (aWO.2 h7))⟩,by omega⟩⟩
theorem aYs:aqJ (cfg []) aYo:=cf aXc bp Tryz.func18 λa _ _ _ hc hg hf=>by change a3O a=_ at hc;unfold a3O at hc;split at hc<;>cases hc;cases aY (aYp _ _ _ _ _ _) (aYq _ _ _ _ _ _ hg);exact⟨rfl,by kernel_rfl,_,by assumption⟩
noncomputable def aYu:List az:=xQ::ajK::Kv::Kz::aoo::ajN::aoL::aot::NB::WW::[]
theorem aWr:bd aYu:=⟨mV,ajv,Ai,Ak,aof,ajy,aoA,aoj,KM,Q7,trivial⟩
def a4F:List AV->Option (Option Prop×AV×List Ob)
 | [.k (.int .i64) ((n:Nat):Int),.dv]=>some (some (n<=aB),.own 0 0 3,[.arr 34 .rq (aA n λ_=>0)])
 | _=>none
def aZh:az:=⟨55,false,a4F⟩
def aZz (n:Nat):bk:=⟨λkey_=>match key_ with | 9=>14 | _=>0,λkey_=>match key_ with
 | 3=>some (⟨Nat,λi=>[(0,.k (.int .i64) ((n:Nat):Int)),(1,.dv),(5,.own 9 0 3),(6,.k (.int .i64) ((i:Nat):Int))],
 λi=>[(9,.arr 34 .oq (aA n λt=>if t<i then some 0 else none))],λ_ i=>i<=n,λi=>n-i⟩)
 | 7=>some (⟨Nat,λi=>[(1,.k (.list (.int .i64)) ([]:List Int)),(5,.own 9 0 3),(7,.k (.int .i64) ((i:Nat):Int))],
 λi=>[(9,.arr 34 .oq (aA n λt=>if t<n then some 0 else none))],λ_ i=>i<=0,λi=>0-i⟩) | _=>none,nR,nU⟩
def aXT (n:Nat):Prop:=((0:Int)<=(n:Int)/\(n:Int)<=(n:Int)/\(n:Int)<=(1099511627776:Int))/\∃(x0:Nat),(((n:Int)=(n:Int)/\(0:Int)=(x0:Int)) /\
 List.replicate (n:Int).toNat none=aA n λ(t:Nat)=>if t<x0 then some (0:Rat) else none)/\x0<=n/\∀(x:Nat),x<=n->bif decide ((x:Int)<(↑n :
 Int)) then ax (0:Int)/\((0:Int)<=(x:Int)/\(x:Int)<(↑(aA n λ(t:Nat)=>if t<x then some (0:Rat) else none).length:Int))/\(x:Int).toNat <
 (aA n λ(t:Nat)=>if t<x then some (0:Rat) else none).length/\ax ((x:Int)+(1:Int))/\∃(x':Nat),(((n:Int)=(n:Int)/\(x:Int)+(1:Int)
 = (x':Int))/\(aA n λ(t:Nat)=>if t<x then some (0:Rat) else none).set (x:Int).toNat (some (↑(0:Int):Rat))=aA n λ(t:Nat)=>if t<x' then
 some (0:Rat) else none)/\x'<=n/\n-x'<n-x else ∃(x0:Nat),((([]:List Int)=[]/\(0:Int)=(x0:Int))/\(aA n λ(t:Nat)=>if t<x then some (0 :
 Rat) else none)=aA n λ(t:Nat)=>if t<n then some (0:Rat) else none)/\x0<=(0:Nat)/\∀(x:Nat),x<=(0:Nat)->([]:List Int).length <=
 (9223372036854775807:Nat)->(aA n λ(t:Nat)=>if t<n then some (0:Rat) else none)=List.map some (aA n λ(x:Nat)=>(0:Rat))
theorem aY1 (n:Nat):awp (cfg aYu []) (aZz n) Tryz.f55.ntmps (Tryz.f55.body.getD .skip) (jj Tryz.f55.results.toList (.own 0 0 3) 9 (.arr 34 .rq (aA n λ_=>0))) ⟨aEE 0 [.k (.int .i64) ((n:Nat):Int),.dv],[]⟩=aXT n:=by kernel_rfl
theorem aY2 (n:Nat) (hg:n<=aB):aXT n:=by
 unfold aB at hg;unfold aXT;refine⟨⟨by omega,by omega,by omega⟩,0,⟨⟨rfl,rfl⟩,(iO _ _).trans (bE λt _=>(aI (by omega)).symm)⟩,fi _,λi hi=>aH (λh=>?_) λh=>?_⟩
 ·rw[mX,show((i:Nat):Int).toNat=i from rfl,mY (by omega)];refine⟨by unfold ax;omega,⟨by omega,h⟩,by omega,by unfold ax;omega,i+1,⟨⟨rfl,rfl⟩,bE λt _=>?_⟩,by omega,by omega⟩;rcases vv t i with h5 | h5 | h5
  ·rw[aI (by omega),aV h5,aV (by omega)]
  ·rw[aV h5,aV (by omega)];rfl
  ·rw[aI (by omega),aI (by omega),aI (by omega)]
 ·refine⟨0,⟨⟨rfl,rfl⟩,by rw[show i=n by omega]⟩,bF _,λ_ _ _=>?_⟩;rw[sv];exact bE λt ht=>aV ht
theorem aY3:aqJ (cfg []) aZh:=oY aWr bp Tryz.func55 (by kernel_rfl) (by kernel_rfl) rfl λargs g r hn hc hg hf=>by
 replace hc:a4F args=some (g,r,hn):=hc;unfold a4F at hc;split at hc
 ·cases hc;have hv:=aY2 _ hg
  cases aY (aY1 _) hv;exact⟨by kernel_rfl,_,9,_,rfl,rfl,rfl,by assumption⟩
 ·cases hc
def a1K:List AV->Option (Option Prop×AV×List Ob)
 | [.k (.list .rq) b,.k (.list .bool) is]=>some (some (b.length<=24/\SL GB b),.k .bool (decide (WtP b is)),[])
 | _=>none
def aXg:az:=⟨48,false,a1K⟩
def aXU (b:List Rat) (is:List Bool):bk:=⟨λkey_=>match key_ with | 10=>5 | 11=>5 | 12=>7 | _=>0,λkey_=>match key_ with
 | 5=>some (⟨Nat,λi=>[(0,.k (.list .rq) b),(1,.k (.list .bool) is),(5,.pt 5 0 3 0 0),(6,.pt 6 0 3 0 0),(7,.k (.int .i64) ((i:Nat):Int))],
 λi=>[(5,.box 34 (.k .rq (sdS i (ub is) true (cw b)))),(6,.box 34 (.k .rq (sdS i (ub is) false (cw b))))],
 λ_ i=>i<=b.length/\b.length=is.length/\∀j,j<i->0<=cw b j,λi=>b.length-i⟩) | _=>none,nR,nU⟩
def aU8 (b:List Rat) (is:List Bool):Prop:=b.length<=aB->is.length<=aB->bif !decide ((↑b.length:Int)=(↑is.length:Int)) then false=decide (WtP b is) else ax (0:Int)/\ax (0:Int)/\∃(x0 :
 Nat),((b=b/\is=is/\(0:Int)=(x0:Int))/\(↑(0:Int):Rat)=sdS x0 (ub is) true (cw b)/\(↑(0:Int):Rat)=sdS x0 (ub is) false (cw b))/\(x0<=b.length
 /\ b.length=is.length/\∀(j:Nat),j<x0->(0:Rat)<=cw b j)/\∀(x:Nat),(x<=b.length/\b.length=is.length/\∀(j:Nat),j<x->(0:Rat)<=cw b j) ->
 b.length<=aB->bif decide ((x:Int)<(↑b.length:Int)) then ((0:Int)<=(x:Int)/\(x:Int)<(↑b.length:Int))/\bif decide ((b.getD (x:Int).toNat (0 :
 Rat)).num.sign<(0:Int)) then false=decide (WtP b is) else ((0:Int)<=(x:Int)/\(x:Int)<(↑is.length:Int))/\bif is.getD (x:Int).toNat false then ((0 :
 Int)<=(x:Int)/\(x:Int)<(↑b.length:Int))/\(Sq BQ (sdS x (ub is) true (cw b))/\Sq BQ (b.getD (x:Int).toNat (0:Rat)))/\ax ((x:Int)+(1:Int))/\∃
 (x':Nat),((b=b/\is=is/\(x:Int)+(1:Int)=(x':Int))/\sdS x (ub is) true (cw b)+b.getD (x:Int).toNat (0:Rat)=sdS x' (ub is) true (cw b)/\sdS x
 (ub is) false (cw b)=sdS x' (ub is) false (cw b))/\(x'<=b.length/\b.length=is.length/\∀(j:Nat),j<x'->(0:Rat)<=cw b j)/\b.length-x'<b.length-x
 else ((0:Int)<=(x:Int)/\(x:Int)<(↑b.length:Int))/\(Sq BQ (sdS x (ub is) false (cw b))/\Sq BQ (b.getD (x:Int).toNat (0:Rat)))/\ax ((x:Int)+(1
 : Int))/\∃(x':Nat),((b=b/\is=is/\(x:Int)+(1:Int)=(x':Int))/\sdS x (ub is) true (cw b)=sdS x' (ub is) true (cw b)/\sdS x (ub is) false (cw b) +
 b.getD (x:Int).toNat (0:Rat)=sdS x' (ub is) false (cw b))/\(x'<=b.length/\b.length=is.length/\∀(j:Nat),j<x'->(0:Rat)<=cw b j)/\b.length-x' <
 b.length-x else ax (1:Int)/\(Sq BQ (sdS x (ub is) true (cw b))/\Sq BQ (↑(1:Int):Rat))/\bif decide (fS (sdS x (ub is) true (cw b)) (↑(1:Int):Rat)=(0 :
 Int)) then ax (1:Int)/\(Sq BQ (sdS x (ub is) false (cw b))/\Sq BQ (↑(1:Int):Rat))/\decide (fS (sdS x (ub is) false (cw b)) (↑(1:Int):Rat)=(0:Int)) =
 decide (WtP b is) else false=decide (WtP b is)
theorem aXD (b:List Rat) (is:List Bool):aw aYu [] (aXU b is) Tryz.f48 (.k .bool (decide (WtP b is))) [.k (.list .rq) b,.k (.list .bool) is]=aU8 b is:=by kernel_rfl
theorem aXF (b:List Rat) (is:List Bool) (hg:b.length<=24/\SL GB b) (hf:cJ [.k (.list .rq) b,.k (.list .bool) is]):aU8 b is:=by
 obtain⟨h24,hb⟩:=hg;have hS:∀i t,i<=b.length->Sq BQ (sdS i (ub is) t (cw b)):=λi t hi=>(Sq.apV (k:=GB) λj _=>by
  split
  ·exact hb j
  ·exact Sq.zero _ (by unfold GB;omega)).le (by have:=gU (GB+1) (show i<=24 by omega);unfold GB BQ at *;omega)
 have hB:∀i,Sq BQ (b.getD i 0):=λi=>(hb i).le (by unfold GB BQ;omega);have h1q:Sq BQ ((1:Int):Rat):=Sq.one (by unfold BQ;omega);unfold aU8;refine λ_ _=>dP (λh=>(eJ λe=>h (by rw[e.1])).symm) λh=>⟨by unfold ax;omega,by unfold ax;omega,0,⟨⟨rfl,rfl,rfl⟩,rfl,rfl⟩,⟨fi _,by omega,λj hj=>absurd hj (ia j)⟩,λi ⟨hi,hlen,bB⟩ _=>aH (λh1=>?_) λh1=>?_⟩
 ·have hi':i<b.length:=by omega
  refine⟨⟨by omega,h1⟩,aH (λh2=>(eJ λe=>absurd (C1.1 h2) (Mt.2 (G0.2 (e.2.1 i hi')))).symm) λh2=>⟨⟨by omega,by omega⟩,?_⟩⟩;have hp:0<=cw b i:=G0.1 (Mt.1 λh3=>h2 (C1.2 h3));have aW7:∀j,j<i+1->0<=cw b j:=λj hj=>by
   rcases cM j i with h4 | h4
   ·exact bB j h4
   ·rw[show j=i by omega];exact hp
  change bif ub is i then _ else _
  cases e:ub is i with
  | true=>exact⟨⟨by omega,h1⟩,⟨hS i true hi,hB i⟩,by unfold ax;omega,i+1,⟨⟨rfl,rfl,rfl⟩,aUn e,aVg (by rw[e];decide)⟩,⟨hi',hlen,aW7⟩,by omega⟩
  | false=>exact⟨⟨by omega,h1⟩,⟨hS i false hi,hB i⟩,by unfold ax;omega,i+1,⟨⟨rfl,rfl,rfl⟩,aVg (by rw[e];decide),aUn e⟩,⟨hi',hlen,aW7⟩,by omega⟩
 ·have e:i=b.length:=by omega
  subst e;refine⟨by unfold ax;omega,⟨hS _ true (bF _),h1q⟩,aH (λh2=>⟨by unfold ax;omega,⟨hS _ false (bF _),h1q⟩,?_⟩) λh2=>(eJ λe=>h2 (gz.2 e.2.2.1)).symm⟩;exact yw.2 ⟨λh3=>⟨hlen,bB,gz.1 h2,gz.1 h3⟩,λe=>gz.2 e.2.2.2⟩
theorem aXG:aqJ (cfg []) aXg:=cf aWr bp Tryz.func48 λa _ _ _ hc hg hf=>by change a1K a=_ at hc;unfold a1K at hc;split at hc<;>cases hc;cases aY (aXD _ _) (aXF _ _ hg hf);exact⟨rfl,by kernel_rfl,_,by assumption⟩
noncomputable def a0j:List az:=aZh::aYu
theorem aZP:bd a0j:=⟨aY3,aWr⟩
def a3P:List AV->Option (Option Prop×AV×List Ob)
 | [.k (.list .rq) b,.k (.list (.list .rq)) M,.k (.list .bool) is,.k .bool t]=>some (some (MgG M is b),.k (.list .rq) (ptL M is b t),[])
 | _=>none
def aYw:az:=⟨19,false,a3P⟩
def aY4 (b:List Rat) (M:List (List Rat)) (is:List Bool) (t:Bool):bk:=⟨λkey_=>match key_ with | 6=>10 | _=>0,λkey_=>match key_ with
 | 3=>some (⟨Nat,λi=>[(0,.k (.list .rq) b),(1,.k (.list (.list .rq)) M),(2,.k (.list .bool) is),(3,.k .bool t),(9,.k (.list .rq) (aA (aps M) (ptS M is b t i))),(10,.k (.int .i64) ((i:Nat):Int))],
 λ_=>[],λ_ i=>i<=M.length,λi=>M.length-i⟩) | _=>none,nR,nU⟩
def aXi (b:List Rat) (M:List (List Rat)) (is:List Bool) (t:Bool):Prop:=((0:Int)<=(0:Int)/\(0:Int)<(↑M.length:Int))/\((aps M)<=aB->(aps M)<=aB/\∃(x0:Nat),(b=b/\M=M/\is=is/\t=t/\(aA (aps M) λ(x :
 Nat)=>(0:Rat))=aA (aps M) (ptS M is b t x0)/\(0:Int)=(x0:Int))/\x0<=M.length/\∀(x:Nat),let u2:=M.getD (x:Int).toNat [];
 let u1:=aA (aps M) (ptS M is b t x);x<=M.length->M.length<=aB->bif decide ((x:Int)<(↑M.length:Int)) then ((0:Int)<=(x:Int)/\(x:Int) <
 (↑is.length:Int))/\bif is.getD (x:Int).toNat false == t then ((0:Int)<=(x:Int)/\(x:Int)<(↑M.length:Int))/\((0:Int)<=(x:Int)/\(x:Int) <
 (↑b.length:Int))/\(u1.length<=u2.length/\SL BQ u1/\SL BQ u2/\Sq BQ (-b.getD (x:Int).toNat (0:Rat))/\∀(j:Nat),Sq BQ (-b.getD (x:Int).toNat (0:Rat) *
 u2.getD j (0:Rat)))/\ax ((x:Int)+(1:Int))/\∃(x':Nat),(b=b/\M=M/\is=is/\t=t/\(aA u1.length λ(j:Nat)=>u1.getD j (0:Rat) - -b.getD (↑x
 : Int).toNat (0:Rat)*u2.getD j (0:Rat))=aA (aps M) (ptS M is b t x')/\(x:Int)+(1:Int)=(x':Int))/\x'<=M.length/\M.length-x'<M.length-x
 else ax ((x:Int)+(1:Int))/\∃(x':Nat),(b=b/\M=M/\is=is/\t=t/\aA (aps M) (ptS M is b t x)=aA (aps M) (ptS M is b t x')/\(x:Int)+(1 :
 Int)=(x':Int))/\x'<=M.length/\M.length-x'<M.length-x else aA (aps M) (ptS M is b t x)=ptL M is b t)
theorem aYx (b:List Rat) (M:List (List Rat)) (is:List Bool) (t:Bool):aw a0j [] (aY4 b M is t) Tryz.f19 (.k (.list .rq) (ptL M is b t)) [.k (.list .rq) b,.k (.list (.list .rq)) M,.k (.list .bool) is,.k .bool t]=aXi b M is t:=by kernel_rfl
theorem aYy (b:List Rat) (M:List (List Rat)) (is:List Bool) (t:Bool) (hg:MgG M is b) (hf:cJ [.k (.list .rq) b,.k (.list (.list .rq)) M,.k (.list .bool) is,.k .bool t]):aXi b M is t:=by
 obtain⟨m1,m2,m3⟩:=ba hg.right;have h24:=hg.n24;have h3:=hg.w3;have hl:=hg.len;have kh:=hg.lb;unfold aXi;dsimp only;refine⟨⟨by omega,by omega⟩,λhL=>⟨hL,0,⟨rfl,rfl,rfl,rfl,rfl,rfl⟩,fi _,λi hi _=>aH (λh=>?_) λh=>?_⟩⟩
 ·have hi':i<M.length:=by omega
  refine⟨⟨by omega,by omega⟩,?_⟩;rw[show M.getD ((i:Nat):Int).toNat []=M.getD i [] from rfl,show b.getD ((i:Nat):Int).toNat 0=cw b i from rfl,mX];change bif (ub is i == t) then _ else _
  cases e:(ub is i == t) with
  | true=>have e':=LF e;refine⟨⟨by omega,h⟩,⟨by omega,by omega⟩,⟨by rw[m3 i hi'];exact bF _,SL.mk (λj _=>(hg.pt hi t j).le (by unfold BQ;omega)) (by unfold BQ;omega),(hg.sM i).le (by unfold BQ;omega),(hg.sb i).neg.le (by unfold GB BQ;omega),λj=>((hg.sb i).neg.mul (hg.sM i j)).le (by unfold GB BQ;omega)⟩,by unfold ax;omega,i+1,⟨rfl,rfl,rfl,rfl,bE λj hj=>?_,rfl⟩,by omega,by omega⟩;rw[fW hj,aPh e'];show ptS M is b t i j - -cw b i*el M i j=_;grind
  | false=>exact⟨by unfold ax;omega,i+1,⟨rfl,rfl,rfl,rfl,bE λj _=>(aSf (λe'=>by rw[e',beq_self_eq_true] at e;cases e) j).symm,rfl⟩,by omega,by omega⟩
 ·rw[show i=M.length by omega];rfl
theorem aYz:aqJ (cfg []) aYw:=cf aZP bp Tryz.func19 λa _ _ _ hc hg hf=>by change a3P a=_ at hc;unfold a3P at hc;split at hc<;>cases hc;cases aY (aYx _ _ _ _) (aYy _ _ _ _ hg hf);exact⟨rfl,by kernel_rfl,_,by assumption⟩
noncomputable def aZQ:List az:=aXg::aYw::aYu
theorem aYA:bd aZQ:=⟨aXG,aYz,aWr⟩
def a3Q:List AV->Option (Option Prop×AV×List Ob)
 | [.k (.list .rq) b,.k (.list (.list .rq)) M,.k (.list .bool) is]=>some (some ((b.length<=24/\SL GB b)/\(WtP b is->MgG M is b)),.k .bool (joB M is b),[])
 | _=>none
def aYB:az:=⟨17,false,a3Q⟩
def aY5 (b:List Rat) (M:List (List Rat)) (is:List Bool):bk:=⟨nU,nL,nR,nU⟩
def aXp (b:List Rat) (M:List (List Rat)) (is:List Bool):Prop:=(b.length<=(24:Nat)/\SL GB b)/\bif decide (WtP b is) then MgG M is b/\MgG M is b/\(SL BQ (ptL M is b true)/\SL BQ (ptL M is b false))/\decide (ptL M is b true =
 ptL M is b false)=joB M is b else false=joB M is b
theorem aYC (b:List Rat) (M:List (List Rat)) (is:List Bool):aw aZQ [] (aY5 b M is) Tryz.f17 (.k .bool (joB M is b)) [.k (.list .rq) b,.k (.list (.list .rq)) M,.k (.list .bool) is]=aXp b M is:=by kernel_rfl
theorem aYD (b:List Rat) (M:List (List Rat)) (is:List Bool) (hg:(b.length<=24/\SL GB b)/\(WtP b is->MgG M is b)):aXp b M is:=by obtain⟨h1,h2⟩:=hg;unfold aXp joB;refine⟨h1,aH (λh=>?_) λh=>by rw[eJ h,qY]⟩;have g:=h2 h;rw[kx h,iQ];exact⟨g,g,⟨(g.sp true).le (by unfold BQ;omega),(g.sp false).le (by unfold BQ;omega)⟩,rfl⟩
theorem aYE:aqJ (cfg []) aYB:=cf aYA bp Tryz.func17 λa _ _ _ hc hg hf=>by change a3Q a=_ at hc;unfold a3Q at hc;split at hc<;>cases hc;cases aY (aYC _ _ _) (aYD _ _ _ hg);exact⟨rfl,by kernel_rfl,_,by assumption⟩
def a3R:List AV->Option (Option Prop×AV×List Ob)
 | [.k (.list .rq) W,.k .rq B,.k .rq D,.k (.list .rq) Y,.k (.list (.list .rq)) M,.k (.list .bool) is]=>some (some ((Y.length<=24/\SL GB Y)/\(WtP Y is->MgG M is Y)/\SL BQ W/\Sq BQ B/\Sq BQ D),.k .bool (decide (PrP M is W B D Y)),[])
 | _=>none
def aYF:az:=⟨25,false,a3R⟩
def aY6 (W:List Rat) (B D:Rat) (Y:List Rat) (M:List (List Rat)) (is:List Bool):bk:=⟨λkey_=>match key_ with | 4=>29 | 10=>23 | _=>0,λkey_=>match key_ with
 | 7=>some (⟨Nat,λi=>[(0,.k (.list .rq) W),(4,.k (.list (.list .rq)) M),(5,.k (.list .bool) is),(13,.k (.list .rq) (ptL M is Y true)),(14,.k (.list .rq) (ptL M is Y false)),(15,.k (.int .i64) ((i:Nat):Int))],
 λ_=>[],λ_ i=>i<=M.length/\∀j,j<i->aGr M is Y j=false,λi=>M.length-i⟩) | _=>none,nR,nU⟩
def aVj (W:List Rat) (B D:Rat) (Y:List Rat) (M:List (List Rat)) (is:List Bool) (x:Nat):Prop:=((0:Int)<=(x:Int)/\(x:Int)<(↑is.length:Int))/\bif !is.getD (x:Int).toNat false then (W.length<=(ptL M is Y false).length/\lM W (ptL M is Y false)) /\
 (Sq BQ (dW W (M.getD (x:Int).toNat []))/\Sq BQ (dW W (ptL M is Y false)))/\bif decide ((0:Int)<fS (dW W (M.getD (x:Int).toNat [])) (dW W (ptL M is Y
 false))) then false=decide (PrP M is W B D Y) else ax ((x:Int)+(1:Int))/\∃(x':Nat),(W=W/\M=M/\is=is/\ptL M is Y true=ptL M is Y true/\ptL M is
 Y false=ptL M is Y false/\(x:Int)+(1:Int)=(x':Int))/\(x'<=M.length/\∀(j:Nat),j<x'->aGr M is Y j=false)/\M.length-x'<M.length-x else
 ax ((x:Int)+(1:Int))/\∃(x':Nat),(W=W/\M=M/\is=is/\ptL M is Y true=ptL M is Y true/\ptL M is Y false=ptL M is Y false/\(x:Int)+(1:Int)
 = (x':Int))/\(x'<=M.length/\∀(j:Nat),j<x'->aGr M is Y j=false)/\M.length-x'<M.length-x
def aXq (W:List Rat) (B D:Rat) (Y:List Rat) (M:List (List Rat)) (is:List Bool):Prop:=
 let t1:=ptL M is Y true;
 let t2:=ptL M is Y false;
 let t3:=PrP M is W B D Y;
 (Y.length<=(24:Nat)/\SL GB Y)/\bif !decide (WtP Y is) then false=decide t3 else W.length<=aB->((0:Int)<=(0:Int)/\(0:Int)<(↑M.length:Int))/\((M.getD
 (Int.toNat (0:Int)) []).length<=aB->bif !decide ((↑W.length:Int)=(↑(M.getD (Int.toNat (0:Int)) []).length:Int)) then false=decide t3 else bif decide
 (D.num.sign<=(0:Int)) then false=decide t3 else MgG M is Y/\MgG M is Y/\ax (1:Int)/\(t1.length<=t2.length/\SL BQ t1/\SL BQ t2/\Sq BQ (↑(1:Int):Rat) /\
 ∀(j:Nat),Sq BQ ((↑(1:Int):Rat)*t2.getD j (0:Rat)))/\(SL BQ W/\SL BQ (aA t1.length λ(j:Nat)=>t1.getD j (0:Rat)-(↑(1:Int):Rat)*t2.getD j (0
 : Rat)))/\bif !decide (W=aA t1.length λ(j:Nat)=>t1.getD j (0:Rat)-(↑(1:Int):Rat)*t2.getD j (0:Rat)) then false=decide t3 else (W.length <=
 W.length/\lM W W)/\(Sq BQ D/\Sq BQ (dW W W))/\bif !decide (fS D (dW W W)=(0:Int)) then false=decide t3 else (t2.length<=t2.length/\lM t2 t2) /\
 (t1.length<=t1.length/\lM t1 t1)/\(Sq BQ (dW t2 t2)/\Sq BQ (dW t1 t1))/\ax (2:Int)/\(Sq BQ (dW t2 t2-dW t1 t1)/\Sq BQ (↑(2:Int):Rat)/\(↑(2 :
 Int):Rat)≠(0:Rat))/\(Sq BQ B/\Sq BQ ((dW t2 t2-dW t1 t1)/(↑(2:Int):Rat)))/\bif !decide (fS B ((dW t2 t2-dW t1 t1)/(↑(2:Int):Rat))=(0
 : Int)) then false=decide t3 else ∃(x0:Nat),(W=W/\M=M/\is=is/\ptL M is Y true=ptL M is Y true/\ptL M is Y false=ptL M is Y false/\(0:Int)=(↑x0 :
 Int))/\(x0<=M.length/\∀(j:Nat),j<x0->aGr M is Y j=false)/\∀(x:Nat),let u1:=M.getD (x:Int).toNat [];(x<=M.length/\∀(j:Nat),j<x->aGr M is
 Y j=false)->M.length<=aB->bif decide ((x:Int)<(↑M.length:Int)) then ((0:Int)<=(x:Int)/\(x:Int)<(↑M.length:Int))/\(W.length<=u1.length/\lM
 W u1)/\((0:Int)<=(x:Int)/\(x:Int)<(↑is.length:Int))/\bif is.getD (x:Int).toNat false then (W.length<=t1.length/\lM W t1)/\(Sq BQ (dW W u1)/\Sq
 BQ (dW W t1))/\bif decide (fS (dW W u1) (dW W t1)<(0:Int)) then false=decide t3 else aVj W B D Y M is x else aVj W B D Y M is x else true =
 decide t3)
theorem aYG (W:List Rat) (B D:Rat) (Y:List Rat) (M:List (List Rat)) (is:List Bool):aw aZQ [] (aY6 W B D Y M is) Tryz.f25 (.k .bool (decide (PrP M is W B D Y))) [.k (.list .rq) W,.k .rq B,.k .rq D,.k (.list .rq) Y,.k (.list (.list .rq)) M,.k (.list .bool) is]=aXq W B D Y M is:=by kernel_rfl
theorem aYH (W:List Rat) (B D:Rat) (Y:List Rat) (M:List (List Rat)) (is:List Bool) (hg:(Y.length<=24/\SL GB Y)/\(WtP Y is->MgG M is Y)/\SL BQ W/\Sq BQ B/\Sq BQ D):aXq W B D Y M is:=by
 obtain⟨hy,hm,sW,sB,sD⟩:=hg;unfold aXq;dsimp only;refine⟨hy,dP (λh=>(eJ λe=>h e.1).symm) λh _=>?_⟩;have g:=hm h;obtain⟨m1,m2,m3⟩:=ba g.right;have hl:=g.len;have h24:=g.n24;have hd:∀t,Sq 700000000 (dW (ptL M is Y t) (ptL M is Y t)):=λt=>aVi (g.sp t) (g.sp t) (g.lp t) (by omega);have hdB:∀t,Sq BQ (dW (ptL M is Y t) (ptL M is Y t)):=λt=>(hd t).le (by unfold BQ;omega);have hw:Sq 700000000 (dW (wyL M is Y) (wyL M is Y)):=aVi g.sw g.sw g.lw (by omega);have h22:Sq 64 ((2:Int):Rat):=Sq.atH;have hs:Sq BQ (stQ M is Y):=by unfold stQ;exact(((hd false).sub (hd true)).div (k:=64) Sq.atH (by decide)).le (by unfold BQ;omega)
 have hp:∀t,Sq BQ (dW (wyL M is Y) (ptL M is Y t)):=λt=>(aVi g.sw (g.sp t) g.lw (by omega)).le (by unfold BQ;omega);have hr:∀i,Sq BQ (dW (wyL M is Y) (M.getD i [])):=λi=>(aVi g.sw (g.sM i) g.lw (by omega)).le (by unfold BQ;omega);have h1q:Sq BQ ((1:Int):Rat):=Sq.one (by unfold BQ;omega);have eW:(aA (ptL M is Y true).length λj=>(ptL M is Y true).getD j 0-((1:Int):Rat)*(ptL M is Y false).getD j 0)=wyL M is Y:=by rw[aQP];exact bE λj hj=>by rw[aUo true hj,aUo false hj,show((1:Int):Rat)=1 from rfl,Hf]
 rw[eW];refine⟨⟨by omega,by omega⟩,λ_=>dP (λh1=>(eJ λe=>h1 (by rw[e.2.1,aVh];rfl)).symm) λh1=>aH (λh4=>(eJ λe=>?_).symm) λh4=>?_⟩
 ·have:=aUp.2 e.2.2.2.2.1;omega
 have hD:0<D:=aUp.1 (by omega);refine⟨g,g,by unfold ax;omega,⟨by rw[aQP,aQP];exact bF _,(g.sp true).le (by unfold BQ;omega),(g.sp false).le (by unfold BQ;omega),h1q,λj=>by rw[show((1:Int):Rat)=1 from rfl,Hf];exact(g.sp false j).le (by unfold BQ;omega)⟩,⟨sW,g.sw.le (by unfold BQ;omega)⟩,dP (λh5=>(eJ λe=>h5 e.2.1).symm) λh5=>?_⟩;subst h5;refine⟨⟨bF _,aSg g.sw g.sw g.lw (by omega)⟩,⟨sD,hw.le (by unfold BQ;omega)⟩,dP (λh6=>(eJ λe=>h6 (gz.2 e.2.2.2.1)).symm) λh6=>?_⟩;have h6:=gz.1 h6;refine⟨⟨bF _,aSg (g.sp false) (g.sp false) (g.lp false) (by omega)⟩,⟨bF _,aSg (g.sp true) (g.sp true) (g.lp true) (by omega)⟩,⟨hdB false,hdB true⟩,by unfold ax;omega,⟨((hd false).sub (hd true)).le (by unfold BQ;omega),h22.le (by unfold BQ;omega),by decide⟩,⟨sB,hs⟩,dP (λh7=>(eJ λe=>h7 (gz.2 e.2.2.1)).symm) λh7=>?_⟩;have h7:B=stQ M is Y:=gz.1 h7;refine⟨0,⟨rfl,rfl,rfl,rfl,rfl,rfl⟩,⟨fi _,λj hj=>absurd hj (ia j)⟩,λk ⟨hk,bB⟩ _=>aH (λh5=>?_) λh5=>(kx ⟨h,rfl,h7,h6,hD,λj hj=>bB j (by omega)⟩).symm⟩;have sF:k<M.length:=by omega
 have nT:aGr M is Y k=false->∀j,j<k+1->aGr M is Y j=false:=λh6 j hj=>by
  rcases cM j k with h7 | h7
  ·exact bB j h7
  ·rw[show j=k by omega];exact h6
 have aYr:aGr M is Y k=true->false=decide (PrP M is (wyL M is Y) B D Y):=λh6=>(eJ λe=>by have:=e.2.2.2.2.2 k sF;rw[h6] at this;cases this).symm;rw[show is.getD ((k:Nat):Int).toNat false=ub is k from rfl,show M.getD ((k:Nat):Int).toNat []=M.getD k [] from rfl];have rl:(wyL M is Y).length<=(M.getD k []).length:=by rw[aVh,m3 k sF];exact bF _
 have dr:lM (wyL M is Y) (M.getD k []):=aSg g.sw (g.sM k) g.lw (by omega);have pl:∀t,(wyL M is Y).length<=(ptL M is Y t).length:=λt=>by rw[aVh,aQP];exact bF _
 have dp:∀t,lM (wyL M is Y) (ptL M is Y t):=λt=>aSg g.sw (g.sp t) g.lw (by omega);refine⟨⟨by omega,h5⟩,⟨rl,dr⟩,⟨by omega,by omega⟩,?_⟩;unfold aVj;rw[show is.getD ((k:Nat):Int).toNat false=ub is k from rfl,show M.getD ((k:Nat):Int).toNat []=M.getD k [] from rfl]
 cases e:ub is k with
 | true=>rw[iQ];refine⟨⟨pl true,dp true⟩,⟨hr k,hp true⟩,aH (λh6=>aYr (by unfold aGr;rw[aV e];exact kx (aUR.1 h6))) λh6=>⟨⟨by omega,by omega⟩,?_⟩⟩;rw[show(!true)=false from rfl,qY];exact⟨by unfold ax;omega,k+1,⟨rfl,rfl,rfl,rfl,rfl,rfl⟩,⟨sF,nT (by unfold aGr;rw[aV e];exact eJ λh7=>h6 (aUR.2 h7))⟩,by omega⟩
 | false=>
  rw[qY];refine⟨⟨by omega,by omega⟩,?_⟩;rw[show(!false)=true from rfl,iQ];have en:¬ub is k=true:=by rw[e];decide
  exact⟨⟨pl false,dp false⟩,⟨hr k,hp false⟩,aH (λh6=>aYr (by unfold aGr;rw[aI en];exact kx (aWO.1 h6))) λh6=>⟨by unfold ax;omega,k+1,⟨rfl,rfl,rfl,rfl,rfl,rfl⟩,⟨sF,nT (by unfold aGr;rw[aI en];exact eJ λh7=>h6 (aWO.2 h7))⟩,by omega⟩⟩
theorem aYI:aqJ (cfg []) aYF:=cf aYA bp Tryz.func25 λa _ _ _ hc hg hf=>by change a3R a=_ at hc;unfold a3R at hc;split at hc<;>cases hc;cases aY (aYG _ _ _ _ _ _) (aYH _ _ _ _ _ _ hg);exact⟨rfl,by kernel_rfl,_,by assumption⟩
theorem aVD {M:List (List Rat)} {is:List Bool} (h:chE M is=0):Shp M is/\M.length<=24/\∀t,∃i,i<M.length/\ub is i=t:=by
 unfold chE at h;by_cases h1:Shp M is
 ·rw[aV h1] at h;by_cases h2:24<M.length
  ·rw[aV h2] at h;exact absurd h (by decide)
  ·rw[aI h2] at h;refine⟨h1,by omega,λt=>?_⟩;unfold chI at h;by_cases h3:∀i,i<is.length->ub is i=ub is 0
   ·rw[aV h3] at h;exact absurd h (by decide)
   ·obtain⟨i,hi⟩:=G1.1 h3;obtain⟨h4,h5⟩:=Classical.not_imp.1 hi;have hl:=h1.2.2.2;by_cases h6:ub is 0=t
    ·exact⟨0,by omega,h6⟩
    ·refine⟨i,by omega,?_⟩
     cases h7:ub is i<;>cases h8:ub is 0<;>cases t<;>simp_all
 ·rw[aI h1] at h;exact absurd h (by decide)
section
variable {M:List (List Rat)} {is:List Bool}
end
theorem a16 (n:Int):∃z:Int,z.natAbs<256/\hR n*12=(z:Rat):=by
 have hm:0<=n%41/\n%41<41:=⟨Int.emod_nonneg _ (by omega),Int.emod_lt_of_pos _ (by omega)⟩
 have key:∀d k:Int,(d:Rat)≠0->d*k=12->0<=k->k<=12->∃z:Int,z.natAbs<256/\((n%41-20:Int):Rat)/(d:Rat)*12=(z:Rat):=λd k h0 e k0 k1=>by
  refine⟨(n%41-20)*k,?_,?_⟩
  ·rw[yk];have h1:(n%41-20).natAbs<=20:=by omega
   have h2:k.natAbs<=12:=by omega
   have:=yr h1 h2;omega
  ·rw[show(12:Rat)=((12:Int):Rat) from rfl,<-e,Hr,Hr,<-Rat.mul_assoc,Rat.div_mul_cancel h0]
 unfold hR dd;by_cases h3:n.tdiv 41%6=3
 ·rw[aV h3];exact key 2 6 (by decide) (by decide) (by decide) (by decide)
 ·rw[aI h3];by_cases h4:n.tdiv 41%6=4
  ·rw[aV h4];exact key 3 4 (by decide) (by decide) (by decide) (by decide)
  ·rw[aI h4];by_cases h5:n.tdiv 41%6=5
   ·rw[aV h5];exact key 4 3 (by decide) (by decide) (by decide) (by decide)
   ·rw[aI h5];exact key 1 12 (by decide) (by decide) (by decide) (by decide)
theorem aZU (l:List Int) (i:Nat):∃z:Int,z.natAbs<256/\cE l i*12=(z:Rat):=by
 unfold cE;split
 ·exact a16 _
 ·exact⟨0,by decide,by rw[Az];rfl⟩
def dnM (l:List Int) (n w:Int):List (List Rat):=aG (n%8).toNat (w%3+1).toNat λi j=>cE l (i*(w%3+1).toNat+j)
theorem aXW (l:List Int) (n w:Int):(dnM l n w).length=(n%8).toNat:=mkM_len ..
theorem aZV (l:List Int) (n w:Int):SM 256 (dnM l n w):=λi=>by
 by_cases hi:i<(n%8).toNat
 ·unfold dnM;rw[na hi];exact SL.mk (λ_ _=>(WT _ _).le (by omega)) (by omega)
 ·rw[mZ (by rw[aXW];omega)];exact SL.nil (by omega)
theorem a17 {l:List Int} {n w:Int} {is:List Bool} (h:chE (dnM l n w) is=0):NrG (dnM l n w) is:=by
 obtain⟨h1,h2,h3⟩:=aVD h;have hp:0<(n%8).toNat:=by have:=(ba h1.1).1;rw[aXW] at this;exact this
 refine⟨h1.1,h1.2.2.2,h2,?_,aZV l n w,λi j=>?_,h3⟩
 ·unfold dnM;rw[tM hp];omega
 ·by_cases hi:i<(n%8).toNat
  ·by_cases hj:j<(w%3+1).toNat
   ·unfold dnM;rw[Ny hi hj];obtain⟨z,z1,z2⟩:=aZU l (i*(w%3+1).toNat+j);exact⟨z,by omega,z2⟩
   ·refine⟨0,by decide,?_⟩;have e:el (dnM l n w) i j=0:=by
     unfold dnM el;rw[na hi,ss (by omega)]
    rw[e,Az];rfl
  ·refine⟨0,by decide,?_⟩;have e:el (dnM l n w) i j=0:=by
    unfold el;rw[mZ (xs:=dnM l n w) (by rw[aXW];omega)];rfl
   rw[e,Az];rfl
section
variable {n w:Nat} {v:Nat->Nat->Rat} {s:Nat->Bool} {b b':Nat->Rat} {lm lm':Bool->Rat}
end
section
variable {M:List (List Rat)} {is:List Bool} {b b':List Rat} {lm lm':Bool->Rat}
end
def sdI (s:Int) (i:Nat):Bool:=decide (aZc .i64 (aZd .i64 s (IntKind.u64.wrap (((i:Nat):Int).tmod 60))) 1=1)
def dnN (n odd:Int):Nat:=(n%8).toNat+if odd%12=11 then 1 else 0
def dnS (s n odd:Int):List Bool:=aA (dnN n odd) (sdI s)
noncomputable def a0l:List az:=Cy::a4V::[]
theorem aZX:bd a0l:=⟨nJ,asq,trivial⟩
def a3S:List AV->Option (Option Prop×AV×List Ob)
 | [.k (.list (.int .i64)) l,.k (.int .i64) s,.k (.int .i64) n,.k (.int .i64) w,.k (.int .i64) odd]=>some (some ((∀i,ax (l.getD i 0))/\ax s/\ax n/\ax w/\ax odd),T2 (.k (.list (.list .rq)) (dnM l n w)) (.k (.list .bool) (dnS s n odd)),[])
 | _=>none
def aYK:az:=⟨5,false,a3S⟩
def aY8 (l:List Int) (s n w odd:Int):bk:=⟨nU,λkey_=>match key_ with
 | 7=>some (⟨Nat,λi=>[(1,.k (.int .i64) s),(2,.k (.int .i64) ((dnN n odd:Nat):Int)),(12,.k (.list (.list .rq)) (dnM l n w)),(13,.own 13 0 1),(14,.k (.int .i64) ((i:Nat):Int))],
 λi=>[(13,.arr 4 .bool (aA i (sdI s)))],
 λ_ i=>i<=dnN n odd,λi=>dnN n odd-i⟩) | _=>none,nR,nU⟩
def aPS (l:List Int) (s n w odd:Int) (x:Nat):Prop:=bif decide ((x:Int)<(↑(dnN n odd):Int)) then (60:Int)≠(0:Int)/\(0:Int)<=IntKind.u64.wrap ((x:Int).tmod (60:Int))/\(aA x (sdI s)).length+[decide
 (aZc IntKind.i64 (aZd IntKind.i64 s (IntKind.u64.wrap ((x:Int).tmod (60:Int)))) (1:Int)=(1:Int))].length<=aB/\ax ((x:Int)+(1:Int))/\∃(x' :
 Nat),((s=s/\(↑(dnN n odd):Int)=(↑(dnN n odd):Int)/\dnM l n w=dnM l n w/\(x:Int)+(1:Int)=(x':Int))/\(aA x (sdI s)).append [decide (aZc
 IntKind.i64 (aZd IntKind.i64 s (IntKind.u64.wrap ((x:Int).tmod (60:Int)))) (1:Int)=(1:Int))]=aA x' (sdI s))/\x'<=dnN n odd/\dnN n odd-x'<dnN n odd -
 x else dnM l n w=dnM l n w/\aA x (sdI s)=dnS s n odd
def aXr (l:List Int) (s n w odd:Int):Prop:=
 let t1:=aG (n%(8:Int)).toNat (w%(3:Int)+(1:Int)).toNat λ(i j:Nat)=>cE l (i*(w%(3:Int)+(1:Int)).toNat+j);
 (ax n/\(0:Int)<(8:Int)/\(8:Int)<=(9223372036854775807:Int))/\(ax w/\(0:Int)<(3:Int)/\(3:Int)<=(9223372036854775807:Int))/\ax (w%(3 :
 Int)+(1:Int))/\((∀(i:Nat),ax (l.getD i (0:Int)))/\((0:Int)<=n%(8:Int)/\n%(8:Int)<=(1000000:Int))/\(0:Int)<=w%(3:Int)+(1:Int)/\w
 % (3:Int)+(1:Int)<=(1000000:Int))/\(ax odd/\(0:Int)<(12:Int)/\(12:Int)<=(9223372036854775807:Int))/\bif decide (odd%(12:Int)=(11:Int))
 then ax (n%(8:Int)+(1:Int))/\∃(x0:Nat),((s=s/\n%(8:Int)+(1:Int)=(↑(dnN n odd):Int)/\t1=dnM l n w/\(0:Int)=(x0:Int))/\aA x0 (sdI
 s)=[])/\x0<=dnN n odd/\∀(x:Nat),x<=dnN n odd->aPS l s n w odd x else ∃(x0:Nat),((s=s/\n%(8:Int)=(↑(dnN n odd):Int)/\t1=dnM l n w/\(0 :
 Int)=(x0:Int))/\aA x0 (sdI s)=[])/\x0<=dnN n odd/\∀(x:Nat),x<=dnN n odd->aPS l s n w odd x
theorem aYL (l:List Int) (s n w odd:Int):aw a0l [] (aY8 l s n w odd) Tryz.f5 (T2 (.k (.list (.list .rq)) (dnM l n w)) (.k (.list .bool) (dnS s n odd))) [.k (.list (.int .i64)) l,.k (.int .i64) s,.k (.int .i64) n,.k (.int .i64) w,.k (.int .i64) odd]=aXr l s n w odd:=by kernel_rfl
theorem aYM (l:List Int) (s n w odd:Int) (hg:(∀i,ax (l.getD i 0))/\ax s/\ax n/\ax w/\ax odd):aXr l s n w odd:=by
 obtain⟨hl,hs,hn,hw,ho⟩:=hg;have key:∀x,x<=dnN n odd->aPS l s n w odd x:=λx hx=>by
  unfold aPS;have hN:dnN n odd<=9:=by unfold dnN;split<;>omega
  have e0:0<=IntKind.u64.wrap (((x:Nat):Int).tmod 60):=by rw[IntKind.wrap_u64];omega
  refine aH (λh=>?_) λh=>?_
  ·refine⟨by decide,e0,by rw[mX];show x+1<=aB;unfold aB;omega,by unfold ax;omega,x+1,⟨⟨rfl,rfl,rfl,rfl⟩,(tI x (sdI s)).symm⟩,by omega,by omega⟩
  ·exact⟨rfl,by rw[show x=dnN n odd by omega];rfl⟩
 unfold aXr;have h2:dnM l n w=aG (n%8).toNat (w%3+1).toNat λi j=>cE l (i*(w%3+1).toNat+j):=rfl
 refine⟨⟨hn,by omega,by omega⟩,⟨hw,by omega,by omega⟩,by unfold ax;omega,⟨hl,⟨by omega,by omega⟩,by omega,by omega⟩,⟨ho,by omega,by omega⟩,aH (λh=>⟨by unfold ax;omega,0,⟨⟨rfl,?_,rfl,rfl⟩,rfl⟩,fi _,key⟩) λh=>⟨0,⟨⟨rfl,?_,rfl,rfl⟩,rfl⟩,fi _,key⟩⟩
 ·unfold dnN;rw[aV h];omega
 ·unfold dnN;rw[aI h];omega
theorem aYN:aqJ (cfg []) aYK:=cf aZX bp Tryz.func5 λa _ _ _ hc hg hf=>by change a3S a=_ at hc;unfold a3S at hc;split at hc<;>cases hc;cases aY (aYL _ _ _ _ _) (aYM _ _ _ _ _ hg);exact⟨rfl,by kernel_rfl,_,by assumption⟩
section
variable {M M2:List (List Rat)} {S S2:List Bool}
end
def or2 (c d:az):az:=⟨c.f,false,λargs=>match c.c args with | some r=>some r | none=>d.c args⟩
theorem a1R {c d:az} (e:d.f=c.f) (h1:c.fresh=false) (h2:d.fresh=false) (hc:aqJ (cfg []) c) (hd:aqJ (cfg []) d):aqJ (cfg []) (or2 c d) where
 ent:=hc.ent
 ok args g r hn h hg F w vs iW mB:=by
  have h:(match c.c args with | some r=>some r | none=>d.c args)=some (g,r,hn):=h
  cases hx:c.c args with
  | some x=>rw[hx] at h;have:=hc.ok args g r hn (hx.trans h) hg F w vs iW mB;rw[h1] at this;exact this
  | none=>rw[hx] at h;have:=hd.ok args g r hn h hg F w vs iW mB;rw[e,h2] at this;exact this
def pwQ (ws:List Int) (i:Nat):Rat:=(((if i<ws.length then ws.getD i 0 else 0)%4:Int):Rat)
def pwA (ws:List Int) (S:List Bool) (t:Bool):Rat:=sdS S.length (ub S) t (pwQ ws)
def pB1 (ws:List Int) (S:List Bool) (i:Nat):Bool:=ub S i&&decide (0<pwA ws S true)
def pB2 (ws:List Int) (S:List Bool) (i:Nat):Bool:= !ub S i&&decide (0<pwA ws S false)
def pwT (ws:List Int) (S:List Bool) (i:Nat):Rat:=bif pB1 ws S i then pwQ ws i/pwA ws S true else pwQ ws i
def pwN (ws:List Int) (S:List Bool) (i:Nat):Rat:=bif pB2 ws S i then pwT ws S i/pwA ws S false else pwT ws S i
def pwL (ws:List Int) (S:List Bool) (i:Nat):List Rat:=aA S.length λt=>if t<i then pwN ws S t else pwQ ws t
def wyX (M:List (List Rat)) (S:List Bool) (q:List Rat):List Rat:=aA (ptL M S q true).length λj=>(ptL M S q true).getD j 0-((1:Int):Rat)*(ptL M S q false).getD j 0
section
variable {ws:List Int} {S:List Bool}
theorem aV6 (i:Nat):Sq 256 (pwQ ws i):=by unfold pwQ;exact arz (by unfold ax;omega)
theorem aXL {i:Nat} (h:i<=9) (t:Bool):Sq 3000 (sdS i (ub S) t (pwQ ws)):=(Sq.apV (k:=256) λj _=>by
 split
 ·exact aV6 j
 ·exact Sq.zero _ (by omega)).le (by have:=gU (256+1) h;omega)
theorem a2u (h:S.length<=9) (i:Nat):Sq 4000 (pwT ws S i):=by
 unfold pwT pB1
 cases e:(ub S i&&decide (0<pwA ws S true)) with
 | false=>exact(aV6 i).le (by omega)
 | true=>
  have h1:0<pwA ws S true:=AD (by revert e;cases ub S i<;>simp);have hn:pwA ws S true≠0:=by grind
  exact((aV6 i).div (aXL h true:Sq 3000 (pwA ws S true)) hn).le (by omega)
theorem a3o (h:S.length<=9) (i:Nat):Sq 8000 (pwN ws S i):=by
 unfold pwN pB2
 cases e:(!ub S i&&decide (0<pwA ws S false)) with
 | false=>exact(a2u h i).le (by omega)
 | true=>
  have h1:0<pwA ws S false:=AD (by revert e;cases ub S i<;>simp);have hn:pwA ws S false≠0:=by grind
  exact((a2u h i).div (aXL h false:Sq 3000 (pwA ws S false)) hn).le (by omega)
theorem aWE (i:Nat):(pwL ws S i).length=S.length:=mX ..
theorem a1O (h:S.length<=9) (i:Nat):SL GB (pwL ws S i):=SL.mk (λt _=>by
 split
 ·exact(a3o h t).le (by unfold GB;omega)
 ·exact(aV6 t).le (by unfold GB;omega)) (by unfold GB;omega)
theorem a1S {i:Nat} (h:i<S.length):(pwL ws S i).getD i 0=pwQ ws i:=by unfold pwL;rw[fW h,aI (yq i)]
theorem a1l {i:Nat} (h:i<S.length) {v:Rat} (hv:v=pwN ws S i):(pwL ws S i).set i v=pwL ws S (i+1):=by
 unfold pwL;rw[mY h];refine bE λt _=>?_
 rcases vv t i with h1 | h1 | h1
 ·rw[aI (by omega),aV h1,aV (by omega)]
 ·rw[aV h1,aV (by omega),hv,h1]
 ·rw[aI (by omega),aI (by omega),aI (by omega)]
theorem a1C {i:Nat} (h:i<S.length) (hv:pwQ ws i=pwN ws S i):pwL ws S i=pwL ws S (i+1):=by
 rw[<-a1l h hv];unfold pwL;rw[mY h];refine bE λt _=>?_;by_cases e:t=i
 ·rw[aV e,e,aI (yq i)]
 ·rw[aI e]
theorem a2X {i:Nat} (e:ub S i=true):pwN ws S i=if 0<pwA ws S true then pwQ ws i/pwA ws S true else pwQ ws i:=by
 unfold pwN pwT pB1 pB2;rw[e];by_cases h:0<pwA ws S true
 ·rw[aV h,kx h];rfl
 ·rw[aI h,eJ h];rfl
theorem a2Y {i:Nat} (e:ub S i=false):pwN ws S i=if 0<pwA ws S false then pwQ ws i/pwA ws S false else pwQ ws i:=by
 unfold pwN pwT pB1 pB2;rw[e];by_cases h:0<pwA ws S false
 ·rw[aV h,kx h];rfl
 ·rw[aI h,eJ h];rfl
end
noncomputable def a3q:List az:=aTd::[]
theorem a2Z:bd a3q:=⟨aTz,trivial⟩
def a3W:List AV->Option (Option Prop×AV×List Ob)
 | [.agg (.cons (.agg (.cons .dv (.cons (.k .q A) .nil))) (.cons (.k .q B) (.cons (.k (.list .q) Y) .nil))),.k (.list (.list .q)) M,.k (.list .bool) is]=>some (some (chE M is≠0),.k .bool false,[])
 | _=>none
def a1D:az:=⟨18,false,a3W⟩
def a2l (A B:Rat) ( Y:List Rat) (M:List (List Rat)) (is:List Bool):bk:=⟨λkey_=>match key_ with | 3=>6 | _=>0,nL,nR,nU⟩
def a1E (A B:Rat) ( Y:List Rat) (M:List (List Rat)) (is:List Bool):Prop:=bif !decide (chE M is=(0:Int)) then false=false else False
theorem a1Z (A B:Rat) ( Y:List Rat) (M:List (List Rat)) (is:List Bool):aw a3q [] (a2l A B Y M is) Tryz.f18 (.k .bool false) [.agg (.cons (.agg (.cons .dv (.cons (.k .q A) .nil))) (.cons (.k .q B) (.cons (.k (.list .q) Y) .nil))),.k (.list (.list .q)) M,.k (.list .bool) is]=a1E A B Y M is:=by kernel_rfl
theorem a10 (A B:Rat) ( Y:List Rat) (M:List (List Rat)) (is:List Bool) (hg:chE M is≠0) (hf:cJ [.agg (.cons (.agg (.cons .dv (.cons (.k .q A) .nil))) (.cons (.k .q B) (.cons (.k (.list .q) Y) .nil))),.k (.list (.list .q)) M,.k (.list .bool) is]):a1E A B Y M is:=by exact dP (λ_=>rfl) λh=>absurd h hg
theorem a11:aqJ (cfg []) a1D:=cf a2Z bp Tryz.func18 λa _ _ _ hc hg hf=>by change a3W a=_ at hc;unfold a3W at hc;split at hc<;>cases hc;cases aY (a1Z _ _ _ _ _) (a10 _ _ _ _ _ hg hf);exact⟨rfl,by kernel_rfl,_,by assumption⟩
def a1F:az:=or2 a1D aYo
theorem a13:aqJ (cfg []) a1F:=a1R rfl rfl rfl a11 aYs
noncomputable def a3r:List az:=aYK::xQ::Cy::Kv::aoo::aoL::ZY::aTP::aTG::xV::Ap::aXd::aYB::a1F::aYw::aot::WW::ajN::GK::aa7::aYF::[]
theorem a23:bd a3r:=⟨aYN,mV,nJ,Ai,aof,aoA,CH,aTS,aTK,uw,CL,aWL,aYE,a13,aYz,aoj,Q7,ajy,GO,WL,aYI,trivial⟩
noncomputable def a3X:List AV->Option (Option Prop×AV×List Ob)
 | [.k (.list (.int .i64)) l,.k (.list (.int .i64)) ws,.k (.int .i64) s,.k (.int .i64) n,.k (.int .i64) w,.k (.int .i64) odd,.k (.int .i64) way,.k (.int .i64) by_]=>some (some ((∀i,ax (l.getD i 0))/\(∀i,ax (ws.getD i 0))/\ax s/\ax n/\ax w/\ax odd/\ax way/\ax by_),.k .bool true,[])
 | _=>none
noncomputable def a2K:az:=⟨3,false,a3X⟩
noncomputable def a2m (l ws:List Int) (s n w odd way by_:Int):bk:=⟨λkey_=>match key_ with | 12=>5 | 13=>5 | 18=>7 | 20=>7 | 34=>3 | 36=>3 | 39=>11 | 40=>11 | _=>0,λkey_=>bif Nat.beq key_ 5 then some (⟨Nat,λi=>[(1,.k (.list (.int .i64)) ws),(6,.k (.int .i64) way),(7,.k (.int .i64) by_),(17,.k (.list (.list .rq)) (dnM l n w)),(18,.k (.list .bool) (dnS s n odd)),(19,.own 19 0 3),(20,.pt 20 0 3 0 0),(21,.pt 21 0 3 0 0),(22,.k (.int .i64) ((i:Nat):Int))],
 λi=>[(19,.arr 34 .rq (aA i (pwQ ws))),(20,.box 34 (.k .rq (sdS i (ub (dnS s n odd)) true (pwQ ws)))),(21,.box 34 (.k .rq (sdS i (ub (dnS s n odd)) false (pwQ ws))))],λ_ i=>i<=(dnS s n odd).length,λi=>(dnS s n odd).length-i⟩) else
 bif Nat.beq key_ 15 then some (⟨Nat,λi=>[(6,.k (.int .i64) way),(7,.k (.int .i64) by_),(17,.k (.list (.list .rq)) (dnM l n w)),(18,.k (.list .bool) (dnS s n odd)),(19,.own 19 0 3),(20,.pt 20 0 3 0 0),(21,.pt 21 0 3 0 0),(24,.k (.int .i64) ((i:Nat):Int))],
 λi=>[(19,.arr 34 .rq (pwL ws (dnS s n odd) i)),(20,.box 34 (.k .rq (pwA ws (dnS s n odd) true))),(21,.box 34 (.k .rq (pwA ws (dnS s n odd) false)))],λ_ i=>i<=(dnS s n odd).length,λi=>(dnS s n odd).length-i⟩) else
 bif Nat.beq key_ 1000023 then some (⟨List Rat,λq=>[(6,.k (.int .i64) way),(7,.k (.int .i64) by_),(17,.k (.list (.list .rq)) (dnM l n w)),(18,.k (.list .bool) (dnS s n odd)),(19,.own 19 0 3),(25,.k .bool (decide (chE (dnM l n w) (dnS s n odd)=0)))],λq=>[(19,.arr 34 .rq q)],λ_ q=>q.length=(dnS s n odd).length/\SL GB q,λ_=>0⟩) else
 bif Nat.beq key_ 1000039 then some (⟨List Rat×List Rat×Rat×Rat,λp=>[(17,.k (.list (.list .rq)) (dnM l n w)),(18,.k (.list .bool) (dnS s n odd)),(19,.k (.list .rq) p.1),(28,.k (.list .rq) p.2.1),(29,.pt 29 0 3 0 0),(30,.pt 30 0 3 0 0),(31,.pt 31 0 12 0 0)],λp=>[(29,.box 34 (.k .rq p.2.2.1)),(30,.box 34 (.k .rq p.2.2.2)),(31,.box 59 (.agg (.cons (.agg (.cons (.k (.list .q) p.2.1) (.cons (.k .q p.2.2.1) .nil))) (.cons (.k .q p.2.2.2) (.cons (.k (.list .q) p.1) .nil)))))],λ_ p=>(chE (dnM l n w) (dnS s n odd)=0/\p.1.length=(dnS s n odd).length/\SL GB p.1)/\SL BQ p.2.1/\Sq BQ p.2.2.1/\Sq BQ p.2.2.2,λ_=>0⟩) else
 none,λkey_=>match key_ with | _=>none,λkey_=>match key_ with | _=>0⟩
def aT0 (l ws:List Int) (s n w odd way by_:Int) (xb:List Rat):Prop:=let t1:=dnS s n odd;let t2:=(↑(1:Int):Rat);let t3:=(↑(2:Int):Rat);let ah:=dnM l n w;let ai:=wyX ah t1 xb;let aj:=ptL ah t1 xb false;let ak:=ptL ah t1 xb true;let al:=aA ai.length λ(j:Nat)=>ai.getD j (0:Rat)*hR by_;let am:=stQ ah t1 xb;let an:=dW ai ai;bif !decide (chE ah t1=(0:Int)) then SL BQ xb/\SM BQ ah/\chE ah t1≠(0:Int)/\(!false)=true else MgG ah t1 xb/\MgG ah t1 xb/\ax (1:Int)/\(ak.length<=aj.length/\SL BQ ak/\SL BQ aj/\Sq BQ t2/\∀(j:Nat),Sq BQ (t2*aj.getD j (0:Rat)))/\(aj.length<=aj.length/\lM aj aj)/\(ak.length<=ak.length/\lM ak ak)/\(Sq BQ (dW aj aj)/\Sq BQ (dW ak ak))/\ax (2:Int)/\(Sq BQ (dW aj aj-dW ak ak)/\Sq BQ t3/\t3≠(0:Rat))/\(ai.length<=ai.length/\lM ai ai)/\(ax way/\(0:Int)<(7:Int)/\(7:Int)<=(9223372036854775807:Int))/\bif decide (way%(7:Int)=(0:Int)) then ax by_/\(Sq BQ am/\Sq BQ (hR by_))/\SL BQ ai/\Sq BQ (stQ ah t1 xb+hR by_)/\Sq BQ an/\SL BQ xb/\∃(abq:List Rat×List Rat×Rat×Rat),let ag:=abq.2;((dnM l n w=dnM l n w/\dnS s n odd=dnS s n odd/\xb=abq.1/\ai=ag.1)/\stQ ah t1 xb+hR by_=ag.2.1/\dW ai ai=ag.2.2/\(ai=ag.1/\stQ ah t1 xb+hR by_=ag.2.1)/\dW ai ai=ag.2.2/\xb=abq.1)/\((chE ah t1=(0:Int)/\abq.1.length=t1.length/\SL GB abq.1)/\SL BQ ag.1/\Sq BQ ag.2.1/\Sq BQ ag.2.2)/\∀(xbb:List Rat×List Rat×Rat×Rat),let af:=xbb.2.1;let ae:=xbb.1;let ad:=xbb.2.2;(chE ah t1=(0:Int)/\ae.length=t1.length/\SL GB ae)/\SL BQ af/\Sq BQ ad.1/\Sq BQ ad.2->SM BQ ah/\(NyG ah t1 ae/\SL BQ af/\Sq BQ ad.1/\Sq BQ ad.2)/\((ae.length<=(24:Nat)/\SL GB ae)/\(WtP ae t1->MgG ah t1 ae)/\SL BQ af/\Sq BQ ad.1/\Sq BQ ad.2)/\(decide (PrC ah t1 af ad.1 ad.2 ae) == decide (PrP ah t1 af ad.1 ad.2 ae))=true else bif decide (way%(7:Int)=(1:Int)) then ax by_/\(Sq BQ an/\Sq BQ (hR by_))/\SL BQ ai/\Sq BQ am/\Sq BQ (dW ai ai+hR by_)/\SL BQ xb/\∃(abq:List Rat×List Rat×Rat×Rat),let ab:=abq.2;((dnM l n w=dnM l n w/\dnS s n odd=dnS s n odd/\xb=abq.1/\ai=ab.1)/\stQ ah t1 xb=ab.2.1/\dW ai ai+hR by_=ab.2.2/\(ai=ab.1/\stQ ah t1 xb=ab.2.1)/\dW ai ai+hR by_=ab.2.2/\xb=abq.1)/\((chE ah t1=(0:Int)/\abq.1.length=t1.length/\SL GB abq.1)/\SL BQ ab.1/\Sq BQ ab.2.1/\Sq BQ ab.2.2)/\∀(xbb:List Rat×List Rat×Rat×Rat),let aa:=xbb.2.1;let a9:=xbb.1;let a8:=xbb.2.2;(chE ah t1=(0:Int)/\a9.length=t1.length/\SL GB a9)/\SL BQ aa/\Sq BQ a8.1/\Sq BQ a8.2->SM BQ ah/\(NyG ah t1 a9/\SL BQ aa/\Sq BQ a8.1/\Sq BQ a8.2)/\((a9.length<=(24:Nat)/\SL GB a9)/\(WtP a9 t1->MgG ah t1 a9)/\SL BQ aa/\Sq BQ a8.1/\Sq BQ a8.2)/\(decide (PrC ah t1 aa a8.1 a8.2 a9) == decide (PrP ah t1 aa a8.1 a8.2 a9))=true else bif decide (way%(7:Int)=(2:Int)) then ax by_/\(SL BQ ai/\Sq BQ (hR by_))/\SL BQ al/\Sq BQ am/\Sq BQ an/\SL BQ xb/\∃(abq:List Rat×List Rat×Rat×Rat),let a7:=abq.2;((dnM l n w=dnM l n w/\dnS s n odd=dnS s n odd/\xb=abq.1/\al=a7.1)/\stQ ah t1 xb=a7.2.1/\dW ai ai=a7.2.2/\(al=a7.1/\stQ ah t1 xb=a7.2.1)/\dW ai ai=a7.2.2/\xb=abq.1)/\((chE ah t1=(0:Int)/\abq.1.length=t1.length/\SL GB abq.1)/\SL BQ a7.1/\Sq BQ a7.2.1/\Sq BQ a7.2.2)/\∀(xbb:List Rat×List Rat×Rat×Rat),let a6:=xbb.2.1;let a5:=xbb.1;let a4:=xbb.2.2;(chE ah t1=(0:Int)/\a5.length=t1.length/\SL GB a5)/\SL BQ a6/\Sq BQ a4.1/\Sq BQ a4.2->SM BQ ah/\(NyG ah t1 a5/\SL BQ a6/\Sq BQ a4.1/\Sq BQ a4.2)/\((a5.length<=(24:Nat)/\SL GB a5)/\(WtP a5 t1->MgG ah t1 a5)/\SL BQ a6/\Sq BQ a4.1/\Sq BQ a4.2)/\(decide (PrC ah t1 a6 a4.1 a4.2 a5) == decide (PrP ah t1 a6 a4.1 a4.2 a5))=true else SL BQ ai/\Sq BQ am/\Sq BQ an/\SL BQ xb/\∃(abq:List Rat×List Rat×Rat×Rat),let a3:=abq.2;((dnM l n w=dnM l n w/\dnS s n odd=dnS s n odd/\xb=abq.1/\ai=a3.1)/\stQ ah t1 xb=a3.2.1/\dW ai ai=a3.2.2/\(ai=a3.1/\stQ ah t1 xb=a3.2.1)/\dW ai ai=a3.2.2/\xb=abq.1)/\((chE ah t1=(0:Int)/\abq.1.length=t1.length/\SL GB abq.1)/\SL BQ a3.1/\Sq BQ a3.2.1/\Sq BQ a3.2.2)/\∀(xbb:List Rat×List Rat×Rat×Rat),let a2:=xbb.2.1;let a1:=xbb.1;let a0:=xbb.2.2;(chE ah t1=(0:Int)/\a1.length=t1.length/\SL GB a1)/\SL BQ a2/\Sq BQ a0.1/\Sq BQ a0.2->SM BQ ah/\(NyG ah t1 a1/\SL BQ a2/\Sq BQ a0.1/\Sq BQ a0.2)/\((a1.length<=(24:Nat)/\SL GB a1)/\(WtP a1 t1->MgG ah t1 a1)/\SL BQ a2/\Sq BQ a0.1/\Sq BQ a0.2)/\(decide (PrC ah t1 a2 a0.1 a0.2 a1) == decide (PrP ah t1 a2 a0.1 a0.2 a1))=true
def aUr (l ws:List Int) (s n w odd way by_:Int) (x:Nat):Prop:=let a0:=(x:Int);let a1:=a0+(1:Int);
 let t1:=dnS s n odd;
 ((0:Int)<=a0/\a0<(↑t1.length:Int))/\bif !t1.getD a0.toNat false then bif decide ((0:Int)<(pwA ws t1 false).num.sign) then ((0:Int)
 <= a0/\a0<(↑(pwL ws t1 x).length:Int))/\a0.toNat<(pwL ws t1 x).length/\(Sq BQ ((pwL ws t1 x).getD a0.toNat (0:Rat))/\Sq BQ (pwA
 ws t1 false)/\pwA ws t1 false≠(0:Rat))/\((0:Int)<=a0/\a0<(↑(pwL ws t1 x).length:Int))/\a0.toNat<(pwL ws t1 x).length/\ax a1/\∃(x':Nat),((way=way/\by_=by_/\dnM l n w=dnM l n w/\dnS s n odd=dnS s n odd/\a0+(1:Int)=(x':Int))/\(pwL ws t1
 x).set a0.toNat ((pwL ws t1 x).getD a0.toNat (0:Rat)/pwA ws t1 false)=pwL ws t1 x'/\pwA ws t1 true=pwA ws t1 true/\pwA ws t1 false=pwA ws t1
 false)/\x'<=t1.length/\t1.length-x'<t1.length-x else ax a1/\∃(x':Nat),((way=way/\by_=by_/\dnM l n w=dnM l n w/\dnS s n odd
 = dnS s n odd/\a0+(1:Int)=(x':Int))/\pwL ws t1 x=pwL ws t1 x'/\pwA ws t1 true=pwA ws t1 true/\pwA ws t1 false=pwA ws t1 false)/\x'<=t1.length
 /\ t1.length-x'<t1.length-x else ax a1/\∃(x':Nat),((way=way/\by_=by_/\dnM l n w=dnM l n w/\dnS s n odd=dnS s n odd/\a0+(1:Int)=(x':Int))/\pwL ws t1 x=pwL ws t1 x'/\pwA ws t1 true=pwA ws t1 true/\pwA ws t1 false=pwA ws t1 false)/\x'<=t1.length/\t1.length-x' <
 t1.length-x
def aNf (l ws:List Int) (s n w odd way by_:Int) (xb:List Rat):Prop:=let a0:=dnM l n w;
 let t1:=dnS s n odd;
 SL BQ xb/\SM BQ a0/\NyG a0 t1 xb/\bif decide (chE a0 t1=(0:Int)) then ((xb.length<=(24:Nat)/\SL GB xb)/\(WtP xb t1->MgG a0 t1 xb))/\bif !(bif decide (chE a0 t1=(0:Int)) then joB a0 t1 xb else false) == joB a0 t1 xb then false=true else aT0 l ws s n
 w odd way by_ xb else bif !(bif decide (chE a0 t1=(0:Int)) then joB a0 t1 xb else false) == false then false=true else aT0 l ws s n w odd
 way by_ xb
def aUs (l ws:List Int) (s n w odd way by_:Int) (x:Nat):Prop:=
 let t1:=dnS s n odd;
 ax ((x:Int)+(1:Int))/\∃(x':Nat),((way=way/\by_=by_/\dnM l n w=dnM l n w/\dnS s n odd=dnS s n odd/\(x:Int)+(1:Int)=(x':Int))/\(pwL
 ws t1 x).set (x:Int).toNat ((pwL ws t1 x).getD (x:Int).toNat (0:Rat)/pwA ws t1 true)=pwL ws t1 x'/\pwA ws t1 true=pwA ws t1 true/\pwA ws t1 false=pwA ws
 t1 false)/\x'<=t1.length/\t1.length-x'<t1.length-x
def a04 (l ws:List Int) (s n w odd way by_:Int):Prop:=let a2:=pwQ ws;let a3:=dnM l n w;
 let t1:=dnS s n odd;
 let t2:=(↑((0:Int)%(4:Int)):Rat);
 ((∀(i:Nat),ax (l.getD i (0:Int)))/\ax s/\ax n/\ax w/\ax odd)/\ax (0:Int)/\ax (0:Int)/\∃(x0:Nat),((ws=ws/\way=way/\by_=by_/\dnM
 l n w=dnM l n w/\dnS s n odd=dnS s n odd/\(0:Int)=(x0:Int))/\aA x0 a2=[]/\(↑(0:Int):Rat)=sdS x0 (ub t1) true a2/\(↑(0:Int):Rat) =
 sdS x0 (ub t1) false a2)/\x0<=t1.length/\∀(x:Nat),x<=t1.length->t1.length<=aB->bif decide ((x:Int)<(↑t1.length:Int)) then ws.length <=
 (9223372036854775807:Nat)->bif decide ((x:Int)<(↑ws.length:Int)) then ((0:Int)<=(x:Int)/\(x:Int)<(↑ws.length:Int))/\(ax (ws.getD (↑x :
 Int).toNat (0:Int))/\(0:Int)<(4:Int)/\(4:Int)<=(9223372036854775807:Int))/\ax (ws.getD (x:Int).toNat (0:Int)%(4:Int))/\(aA x a2).length
 + [(↑(ws.getD (x:Int).toNat (0:Int)%(4:Int)):Rat)].length<=aB/\((0:Int)<=(x:Int)/\(x:Int)<(↑t1.length:Int))/\bif t1.getD (x:Int).toNat
 false then ((0:Int)<=(x:Int)/\(x:Int)<(↑((aA x a2).append [(↑(ws.getD (x:Int).toNat (0:Int)%(4:Int)):Rat)]).length:Int))/\(↑x :
 Int).toNat<((aA x a2).append [(↑(ws.getD (x:Int).toNat (0:Int)%(4:Int)):Rat)]).length/\(Sq BQ (sdS x (ub t1) true a2)/\Sq BQ (((aA x a2).append [(↑(ws.getD (x:Int).toNat (0:Int)%(4:Int)):Rat)]).getD (x:Int).toNat (0:Rat)))/\ax ((x:Int)+(1:Int))/\∃(x':Nat),((ws=ws/\way
 = way/\by_=by_/\dnM l n w=dnM l n w/\dnS s n odd=dnS s n odd/\(x:Int)+(1:Int)=(x':Int))/\(aA x a2).append [(↑(ws.getD (x:Int).toNat (0 :
 Int)%(4:Int)):Rat)]=aA x' a2/\sdS x (ub t1) true a2+((aA x a2).append [(↑(ws.getD (x:Int).toNat (0:Int)%(4:Int)):Rat)]).getD (↑x
 : Int).toNat (0:Rat)=sdS x' (ub t1) true a2/\sdS x (ub t1) false a2=sdS x' (ub t1) false a2)/\x'<=t1.length/\t1.length-x'<t1.length-x
 else ((0:Int)<=(x:Int)/\(x:Int)<(↑((aA x a2).append [(↑(ws.getD (x:Int).toNat (0:Int)%(4:Int)):Rat)]).length:Int))/\(x:Int).toNat <
 ((aA x a2).append [(↑(ws.getD (x:Int).toNat (0:Int)%(4:Int)):Rat)]).length/\(Sq BQ (sdS x (ub t1) false a2)/\Sq BQ (((aA x a2).append
 [(↑(ws.getD (x:Int).toNat (0:Int)%(4:Int)):Rat)]).getD (x:Int).toNat (0:Rat)))/\ax ((x:Int)+(1:Int))/\∃(x':Nat),((ws=ws/\way=way/\by_
 = by_/\dnM l n w=dnM l n w/\dnS s n odd=dnS s n odd/\(x:Int)+(1:Int)=(x':Int))/\(aA x a2).append [(↑(ws.getD (x:Int).toNat (0:Int)%(4 :
 Int)):Rat)]=aA x' a2/\sdS x (ub t1) true a2=sdS x' (ub t1) true a2/\sdS x (ub t1) false a2+((aA x a2).append [(↑(ws.getD (↑x :
 Int).toNat (0:Int)%(4:Int)):Rat)]).getD (x:Int).toNat (0:Rat)=sdS x' (ub t1) false a2)/\x'<=t1.length/\t1.length-x'<t1.length-x else (ax
 (0:Int)/\(0:Int)<(4:Int)/\(4:Int)<=(9223372036854775807:Int))/\ax ((0:Int)%(4:Int))/\(aA x a2).length+[t2].length<=aB/\((0:Int) <=
 (x:Int)/\(x:Int)<(↑t1.length:Int))/\bif t1.getD (x:Int).toNat false then ((0:Int)<=(x:Int)/\(x:Int)<(↑((aA x a2).append [t2]).length :
 Int))/\(x:Int).toNat<((aA x a2).append [t2]).length/\(Sq BQ (sdS x (ub t1) true a2)/\Sq BQ (((aA x a2).append [t2]).getD (x:Int).toNat (0 :
 Rat)))/\ax ((x:Int)+(1:Int))/\∃(x':Nat),((ws=ws/\way=way/\by_=by_/\dnM l n w=dnM l n w/\dnS s n odd=dnS s n odd/\(x:Int)+(1:Int) =
 (x':Int))/\(aA x a2).append [t2]=aA x' a2/\sdS x (ub t1) true a2+((aA x a2).append [t2]).getD (x:Int).toNat (0:Rat)=sdS x' (ub
 t1) true a2/\sdS x (ub t1) false a2=sdS x' (ub t1) false a2)/\x'<=t1.length/\t1.length-x'<t1.length-x else ((0:Int)<=(x:Int)/\(↑x :
 Int)<(↑((aA x a2).append [t2]).length:Int))/\(x:Int).toNat<((aA x a2).append [t2]).length/\(Sq BQ (sdS x (ub t1) false a2)/\Sq BQ (((aA x
 a2).append [t2]).getD (x:Int).toNat (0:Rat)))/\ax ((x:Int)+(1:Int))/\∃(x':Nat),((ws=ws/\way=way/\by_=by_/\dnM l n w=dnM l n w/\dnS s
 n odd=dnS s n odd/\(x:Int)+(1:Int)=(x':Int))/\(aA x a2).append [t2]=aA x' a2/\sdS x (ub t1) true a2=sdS x' (ub t1) true a2
 /\ sdS x (ub t1) false a2+((aA x a2).append [t2]).getD (x:Int).toNat (0:Rat)=sdS x' (ub t1) false a2)/\x'<=t1.length/\t1.length-x' <
 t1.length-x else ∃(a0:Nat),((way=way/\by_=by_/\dnM l n w=dnM l n w/\dnS s n odd=dnS s n odd/\(0:Int)=(a0:Int))/\aA x a2=pwL ws t1 a0 /\
 sdS x (ub t1) true a2=pwA ws t1 true/\sdS x (ub t1) false a2=pwA ws t1 false)/\a0<=t1.length/\∀(a1:Nat),let u2:=pwL ws t1 a1;
 let u1:=u2.set (a1:Int).toNat (u2.getD (a1:Int).toNat (0:Rat)/pwA ws t1 true);a1<=t1.length->u2.length<=aB->bif decide ((a1:Int)<(↑u2.length:Int))
 then ((0:Int)<=(a1:Int)/\(a1:Int)<(↑t1.length:Int))/\bif t1.getD (a1:Int).toNat false then bif decide ((0:Int)<(pwA ws t1 true).num.sign) then ((0 :
 Int)<=(a1:Int)/\(a1:Int)<(↑u2.length:Int))/\(a1:Int).toNat<u2.length/\(Sq BQ (u2.getD (a1:Int).toNat (0:Rat))/\Sq BQ (pwA ws t1 true)/\pwA ws t1
 true≠(0:Rat))/\((0:Int)<=(a1:Int)/\(a1:Int)<(↑u2.length:Int))/\(a1:Int).toNat<u2.length/\((0:Int)<=(a1:Int)/\(a1:Int)<(↑t1.length:Int))
 /\ bif !t1.getD (a1:Int).toNat false then bif decide ((0:Int)<(pwA ws t1 false).num.sign) then ((0:Int)<=(a1:Int)/\(a1:Int)<(↑u1.length:Int))/\(↑a1 :
 Int).toNat<u1.length/\(Sq BQ (u1.getD (a1:Int).toNat (0:Rat))/\Sq BQ (pwA ws t1 false)/\pwA ws t1 false≠(0:Rat))/\((0:Int)<=(a1:Int)/\(a1:Int) <
 (↑u1.length:Int))/\(a1:Int).toNat<u1.length/\ax ((a1:Int)+(1:Int))/\∃(x':Nat),((way=way/\by_=by_/\dnM l n w=dnM l n w/\dnS s n odd=dnS s n
 odd/\(a1:Int)+(1:Int)=(x':Int))/\u1.set (a1:Int).toNat (u1.getD (a1:Int).toNat (0:Rat)/pwA ws t1 false)=pwL ws t1 x'/\pwA ws t1 true=pwA ws t1
 true/\pwA ws t1 false=pwA ws t1 false)/\x'<=t1.length/\t1.length-x'<t1.length-a1 else aUs l ws s n w odd way by_ a1 else aUs l ws s n w odd way
 by_ a1 else aUr l ws s n w odd way by_ a1 else aUr l ws s n w odd way by_ a1 else (ax way/\(0:Int)<(7:Int)/\(7:Int)<=(9223372036854775807:Int))
 /\ bif decide (way%(7:Int)=(6:Int)) then u2.length<=aB->bif decide ((0:Int)<(↑u2.length:Int)) then u2.length<=aB->(ax by_/\(0:Int)<(↑u2.length :
 Int)/\(↑u2.length:Int)<=(9223372036854775807:Int))/\ax by_/\((0:Int)<=by_%(↑u2.length:Int)/\by_%(↑u2.length:Int)<(↑u2.length:Int))/\(by_ %
 (↑u2.length:Int)).toNat<u2.length/\∃(x0b:List Rat),((way=way/\by_=by_/\dnM l n w=dnM l n w/\dnS s n odd=dnS s n odd/\decide (chE a3 t1=(0
 : Int))=decide (chE a3 t1=(0:Int)))/\u2.set (by_%(↑u2.length:Int)).toNat (hR by_)=x0b)/\(x0b.length=t1.length/\SL GB x0b)/\∀(xb:List Rat),
 xb.length=t1.length/\SL GB xb->aNf l ws s n w odd way by_ xb else ∃(x0b:List Rat),((way=way/\by_=by_/\dnM l n w=dnM l n w/\dnS s n odd=dnS s n
 odd/\decide (chE a3 t1=(0:Int))=decide (chE a3 t1=(0:Int)))/\pwL ws t1 a1=x0b)/\(x0b.length=t1.length/\SL GB x0b)/\∀(xb:List Rat),
 xb.length=t1.length/\SL GB xb->aNf l ws s n w odd way by_ xb else ∃(x0b:List Rat),((way=way/\by_=by_/\dnM l n w=dnM l n w/\dnS s n odd=dnS s n
 odd/\decide (chE a3 t1=(0:Int))=decide (chE a3 t1=(0:Int)))/\pwL ws t1 a1=x0b)/\(x0b.length=t1.length/\SL GB x0b)/\∀(xb:List Rat),
 xb.length=t1.length/\SL GB xb->aNf l ws s n w odd way by_ xb
theorem a18 (l ws:List Int) (s n w odd way by_:Int):aw a3r [] (a2m l ws s n w odd way by_) Tryz.f3 (.k .bool true) [.k (.list (.int .i64)) l,.k (.list (.int .i64)) ws,.k (.int .i64) s,.k (.int .i64) n,.k (.int .i64) w,.k (.int .i64) odd,.k (.int .i64) way,.k (.int .i64) by_]=a04 l ws s n w odd way by_:=by kernel_rfl
theorem a19 (l ws:List Int) (s n w odd way by_:Int) (hg:(∀i,ax (l.getD i 0))/\(∀i,ax (ws.getD i 0))/\ax s/\ax n/\ax w/\ax odd/\ax way/\ax by_):a04 l ws s n w odd way by_:=by
 obtain⟨hl,hws,hs,hn,hw,ho,a3s,ke⟩:=hg;have hM':SM BQ (dnM l n w):=(aZV l n w).le (by unfold BQ;omega);have hN:chE (dnM l n w) (dnS s n odd)=0->NrG (dnM l n w) (dnS s n odd):=a17;have hS9:(dnS s n odd).length<=9:=by unfold dnS dnN;rw[mX];split<;>omega
 have hr:Sq 256 (hR by_):=(KE by_).le (by omega);have h1q:Sq BQ ((1:Int):Rat):=Sq.one (by unfold BQ;omega);have h22:Sq 64 ((2:Int):Rat):=Sq.atH;have r0:∀q:List Rat,q.length=(dnS s n odd).length->SL GB q->aT0 l ws s n w odd way by_ q:=λq hq AO=>by
  unfold aT0;dsimp only;refine dP (λh=>⟨AO.le (by unfold GB BQ;omega),hM',h,rfl⟩) λh=>?_
  have g:MgG (dnM l n w) (dnS s n odd) q:=by have g:=hN h;exact⟨g.right,g.len,g.n24,g.w3,g.sM,by rw[hq,g.len],AO⟩
  generalize dnS s n odd=S at *
  generalize dnM l n w=M at *
  have eW:wyX M S q=wyL M S q:=by unfold wyX;rw[aQP];exact bE λj hj=>by rw[aUo true hj,aUo false hj,show((1:Int):Rat)=1 from rfl,Hf]
  rw[eW];have hd:∀t,Sq 700000000 (dW (ptL M S q t) (ptL M S q t)):=λt=>aVi (g.sp t) (g.sp t) (g.lp t) (by omega);have hdB:∀t,Sq BQ (dW (ptL M S q t) (ptL M S q t)):=λt=>(hd t).le (by unfold BQ;omega);have hwy:Sq 700000000 (dW (wyL M S q) (wyL M S q)):=aVi g.sw g.sw g.lw (by omega);have cR:Sq 2000000000 (stQ M S q):=by unfold stQ;exact(((hd false).sub (hd true)).div (k:=64) Sq.atH (by decide)).le (by omega)
  have hWB:SL BQ (wyL M S q):=g.sw.le (by unfold BQ;omega);have a1m:Sq BQ (stQ M S q):=cR.le (by unfold BQ;omega);have hDB:Sq BQ (dW (wyL M S q) (wyL M S q)):=hwy.le (by unfold BQ;omega);have hrB:Sq BQ (hR by_):=hr.le (by unfold BQ;omega);have Yi:SL BQ q:=AO.le (by unfold GB BQ;omega);have fin:∀p:List Rat×List Rat×Rat×Rat,(chE M S=0/\p.1.length=S.length/\SL GB p.1)/\SL BQ p.2.1/\Sq BQ p.2.2.1/\Sq BQ p.2.2.2->SM BQ M/\(NyG M S p.1/\SL BQ p.2.1/\Sq BQ p.2.2.1/\Sq BQ p.2.2.2)/\((p.1.length<=24/\SL GB p.1)/\(WtP p.1 S->MgG M S p.1)/\SL BQ p.2.1/\Sq BQ p.2.2.1/\Sq BQ p.2.2.2)/\(decide (PrC M S p.2.1 p.2.2.1 p.2.2.2 p.1) == decide (PrP M S p.2.1 p.2.2.1 p.2.2.2 p.1))=true:=λp ⟨⟨c1,c2,c3⟩,c4,c5,c6⟩=>by
   have ny:NyG M S p.1:=⟨hN,by omega,c3⟩
   refine⟨hM',⟨ny,c4,c5,c6⟩,⟨⟨by omega,c3⟩,ny.mg c1,c4,c5,c6⟩,?_⟩;rw[yw.2 (show PrC M S p.2.1 p.2.2.1 p.2.2.2 p.1↔PrP M S p.2.1 p.2.2.1 p.2.2.2 p.1 from ⟨λe=>e.2,λe=>⟨c1,e⟩⟩)];exact beq_self_eq_true _
  refine⟨g,g,by unfold ax;omega,⟨by rw[aQP,aQP];exact bF _,(g.sp true).le (by unfold BQ;omega),(g.sp false).le (by unfold BQ;omega),h1q,λj=>by rw[show((1:Int):Rat)=1 from rfl,Hf];exact(g.sp false j).le (by unfold BQ;omega)⟩,⟨bF _,aSg (g.sp false) (g.sp false) (g.lp false) (by omega)⟩,⟨bF _,aSg (g.sp true) (g.sp true) (g.lp true) (by omega)⟩,⟨hdB false,hdB true⟩,by unfold ax;omega,⟨((hd false).sub (hd true)).le (by unfold BQ;omega),h22.le (by unfold BQ;omega),by decide⟩,⟨bF _,aSg g.sw g.sw g.lw (by omega)⟩,⟨a3s,by omega,by omega⟩,aH (λ_=>?_) λ_=>aH (λ_=>?_) λ_=>aH (λ_=>?_) λ_=>?_⟩
  ·have a:Sq BQ (stQ M S q+hR by_):=(cR.add hr).le (by unfold BQ;omega);exact⟨ke,⟨a1m,hrB⟩,hWB,a,hDB,Yi,(q,wyL M S q,stQ M S q+hR by_,dW (wyL M S q) (wyL M S q)),⟨⟨rfl,rfl,rfl,rfl⟩,rfl,rfl,⟨rfl,rfl⟩,rfl,rfl⟩,⟨⟨h,hq,AO⟩,hWB,a,hDB⟩,fin⟩
  ·have a:Sq BQ (dW (wyL M S q) (wyL M S q)+hR by_):=(hwy.add hr).le (by unfold BQ;omega);exact⟨ke,⟨hDB,hrB⟩,hWB,a1m,a,Yi,(q,wyL M S q,stQ M S q,dW (wyL M S q) (wyL M S q)+hR by_),⟨⟨rfl,rfl,rfl,rfl⟩,rfl,rfl,⟨rfl,rfl⟩,rfl,rfl⟩,⟨⟨h,hq,AO⟩,hWB,a1m,a⟩,fin⟩
  ·have a:SL BQ (aA (wyL M S q).length λj=>(wyL M S q).getD j 0*hR by_):=SL.mk (λj _=>((g.sw j).mul hr).le (by unfold BQ;omega)) (by unfold BQ;omega);exact⟨ke,⟨hWB,hrB⟩,a,a1m,hDB,Yi,(q,aA (wyL M S q).length (λj=>(wyL M S q).getD j 0*hR by_),stQ M S q,dW (wyL M S q) (wyL M S q)),⟨⟨rfl,rfl,rfl,rfl⟩,rfl,rfl,⟨rfl,rfl⟩,rfl,rfl⟩,⟨⟨h,hq,AO⟩,a,a1m,hDB⟩,fin⟩
  ·exact⟨hWB,a1m,hDB,Yi,(q,wyL M S q,stQ M S q,dW (wyL M S q) (wyL M S q)),⟨⟨rfl,rfl,rfl,rfl⟩,rfl,rfl,⟨rfl,rfl⟩,rfl,rfl⟩,⟨⟨h,hq,AO⟩,hWB,a1m,hDB⟩,fin⟩
 have r2:∀q:List Rat,q.length=(dnS s n odd).length/\SL GB q->aNf l ws s n w odd way by_ q:=λq ⟨hq,AO⟩=>by
  have e0:=r0 q hq AO;have ny:NyG (dnM l n w) (dnS s n odd) q:=⟨hN,by omega,AO⟩
  unfold aNf;dsimp only;refine⟨AO.le (by unfold GB BQ;omega),hM',ny,aH (λh=>⟨⟨⟨by omega,AO⟩,ny.mg h⟩,?_⟩) λh=>?_⟩
  ·rw[kx h,iQ,beq_self_eq_true];exact e0
  ·rw[eJ h,qY,beq_self_eq_true];exact e0
 have r1:∀x,x<(dnS s n odd).length->(ub (dnS s n odd) x=true->¬0<pwA ws (dnS s n odd) true)->aUr l ws s n w odd way by_ x:=λx hx hA=>by
  unfold aUr;dsimp only;generalize dnS s n odd=S at *
  rw[show((x:Nat):Int).toNat=x from rfl,aWE,a1S hx];refine⟨⟨by omega,by omega⟩,?_⟩;change bif !ub S x then _ else _
  cases e:ub S x with
  | true=>exact⟨by unfold ax;omega,x+1,⟨⟨rfl,rfl,rfl,rfl,rfl⟩,a1C hx (by rw[a2X e,aI (hA e)]),rfl,rfl⟩,by omega,by omega⟩
  | false=>
   rw[show(!false)=true from rfl,iQ];refine aH (λh=>?_) λh=>?_
   ·have h1:0<pwA ws S false:=aUp.1 (by omega);exact⟨⟨by omega,by omega⟩,hx,⟨(aV6 x).le (by unfold BQ;omega),(aXL hS9 false:Sq 3000 (pwA ws S false)).le (by unfold BQ;omega),by grind⟩,⟨by omega,by omega⟩,hx,by unfold ax;omega,x+1,⟨⟨rfl,rfl,rfl,rfl,rfl⟩,a1l hx (by rw[a2Y e,aV h1]),rfl,rfl⟩,by omega,by omega⟩
   ·have h1:¬0<pwA ws S false:=λh2=>h (by have:=aUp.2 h2;omega);exact⟨by unfold ax;omega,x+1,⟨⟨rfl,rfl,rfl,rfl,rfl⟩,a1C hx (by rw[a2Y e,aI h1]),rfl,rfl⟩,by omega,by omega⟩
 have r3:∀x,x<(dnS s n odd).length->ub (dnS s n odd) x=true->0<pwA ws (dnS s n odd) true->aUs l ws s n w odd way by_ x:=λx hx e hA=>by unfold aUs;dsimp only;rw[show((x:Nat):Int).toNat=x from rfl,a1S hx];exact⟨by unfold ax;omega,x+1,⟨⟨rfl,rfl,rfl,rfl,rfl⟩,a1l hx (by rw[a2X e,aV hA]),rfl,rfl⟩,by omega,by omega⟩
 unfold a04;dsimp only;generalize dnS s n odd=S at *
 refine⟨⟨hl,hs,hn,hw,ho⟩,by unfold ax;omega,by unfold ax;omega,0,⟨⟨rfl,rfl,rfl,rfl,rfl,rfl⟩,rfl,rfl,rfl⟩,fi _,λx hx hL=>aH (λh hLw=>?_) λh=>?_⟩
 ·have pU:x<S.length:=by omega
  have Td:(aA x (pwQ ws)).append [pwQ ws x]=aA (x+1) (pwQ ws):=(tI x (pwQ ws)).symm;have uN:∀z:Rat,(aA x (pwQ ws)).length+[z].length<=aB:=λz=>by rw[mX];show x+1<=aB;unfold aB;omega
  rw[show((x:Nat):Int).toNat=x from rfl];refine aH (λh2=>⟨⟨by omega,h2⟩,⟨hws x,by omega,by omega⟩,by unfold ax;omega,uN _,⟨by omega,h⟩,?_⟩) λh2=>⟨⟨by unfold ax;omega,by omega,by omega⟩,by unfold ax;omega,uN _,⟨by omega,h⟩,?_⟩
  ·rw[show((ws.getD x 0%4:Int):Rat)=pwQ ws x by unfold pwQ;rw[aV (show x<ws.length by omega)],Td,mX,fW (tS x)];change bif ub S x then _ else _
   cases e:ub S x with
   | true=>exact⟨⟨by omega,by omega⟩,by omega,⟨(aXL (by omega) true).le (by unfold BQ;omega),(aV6 x).le (by unfold BQ;omega)⟩,by unfold ax;omega,x+1,⟨⟨rfl,rfl,rfl,rfl,rfl,rfl⟩,rfl,aUn e,aVg (by rw[e];decide)⟩,by omega,by omega⟩
   | false=>exact⟨⟨by omega,by omega⟩,by omega,⟨(aXL (by omega) false).le (by unfold BQ;omega),(aV6 x).le (by unfold BQ;omega)⟩,by unfold ax;omega,x+1,⟨⟨rfl,rfl,rfl,rfl,rfl,rfl⟩,rfl,aVg (by rw[e];decide),aUn e⟩,by omega,by omega⟩
  ·rw[show(((0:Int)%4:Int):Rat)=pwQ ws x by unfold pwQ;rw[aI (show ¬x<ws.length by omega)],Td,mX,fW (tS x)];change bif ub S x then _ else _
   cases e:ub S x with
   | true=>exact⟨⟨by omega,by omega⟩,by omega,⟨(aXL (by omega) true).le (by unfold BQ;omega),(aV6 x).le (by unfold BQ;omega)⟩,by unfold ax;omega,x+1,⟨⟨rfl,rfl,rfl,rfl,rfl,rfl⟩,rfl,aUn e,aVg (by rw[e];decide)⟩,by omega,by omega⟩
   | false=>exact⟨⟨by omega,by omega⟩,by omega,⟨(aXL (by omega) false).le (by unfold BQ;omega),(aV6 x).le (by unfold BQ;omega)⟩,by unfold ax;omega,x+1,⟨⟨rfl,rfl,rfl,rfl,rfl,rfl⟩,rfl,aVg (by rw[e];decide),aUn e⟩,by omega,by omega⟩
 ·have ex:x=S.length:=by omega
  subst ex;refine⟨0,⟨⟨rfl,rfl,rfl,rfl,rfl⟩,bE λt _=>(aI (ia t)).symm,rfl,rfl⟩,fi _,λy hy n5=>?_⟩;rw[aWE];refine aH (λh3=>?_) λh3=>?_
  ·have hy':y<S.length:=by omega
   refine⟨⟨by omega,h3⟩,?_⟩;rw[show((y:Nat):Int).toNat=y from rfl];change bif ub S y then _ else _
   cases e:ub S y with
   | false=>exact r1 y hy' λe2=>by rw[e] at e2;cases e2
   | true=>
    rw[iQ];refine aH (λh4=>?_) λh4=>r1 y hy' λ_ h5=>h4 (by have:=aUp.2 h5;omega);have h5:0<pwA ws S true:=aUp.1 (by omega);refine⟨⟨by omega,h3⟩,hy',⟨by rw[a1S hy'];exact(aV6 y).le (by unfold BQ;omega),(aXL hS9 true:Sq 3000 (pwA ws S true)).le (by unfold BQ;omega),by grind⟩,⟨by omega,h3⟩,hy',⟨by omega,h3⟩,?_⟩;change bif !ub S y then _ else _
    rw[e];exact r3 y hy' e h5
  ·refine⟨⟨a3s,by omega,by omega⟩,aH (λ_ _=>aH (λh6 _=>?_) λ_=>⟨pwL ws S y,⟨⟨rfl,rfl,rfl,rfl,rfl⟩,rfl⟩,⟨aWE y,a1O hS9 y⟩,r2⟩) λ_=>⟨pwL ws S y,⟨⟨rfl,rfl,rfl,rfl,rfl⟩,rfl⟩,⟨aWE y,a1O hS9 y⟩,r2⟩⟩;have hm:=Int.emod_nonneg by_ (show((S.length:Nat):Int)≠0 by omega);have OQ:=Int.emod_lt_of_pos by_ (show 0<((S.length:Nat):Int) by omega);refine⟨⟨ke,h6,by omega⟩,ke,⟨hm,OQ⟩,by omega,_,⟨⟨rfl,rfl,rfl,rfl,rfl⟩,rfl⟩,⟨by rw[tQ];exact aWE y,λj=>?_⟩,r2⟩;rw[b8 _ _ _ _ _ (by rw[aWE];omega)];split
   ·exact hr.le (by unfold GB;omega)
   ·exact a1O hS9 y j
theorem a2c:aqJ (cfg []) a2K:=cf a23 bp Tryz.func3 λa _ _ _ hc hg hf=>by change a3X a=_ at hc;unfold a3X at hc;split at hc<;>cases hc;cases aY (a18 _ _ _ _ _ _ _ _) (a19 _ _ _ _ _ _ _ _ hg);exact⟨rfl,by kernel_rfl,_,by assumption⟩
end Go.Proofs.YtlijkeolpmgioaaGreatDoor.AM
namespace Go.Proofs.YtlijkeolpmgioaaGreatDoor
open Go.ChangeShapes Go.WideShapes Go.ChangeAt Go.RowKit AM
noncomputable def aKL (os:Os):World:={ World.holding Tryz.prog os ⟨#[],#[],[]⟩ with heap:=((World.holding Tryz.prog os ⟨#[],#[],[]⟩).heap.modify 2 (OU #[.int .u8 0,.int .u8 1,.int .u8 56,.int .u8 2,.int .u8 57,.int .u8 49,.int .u8 28,.int .u8 3,.int .u8 61,.int .u8 58,.int .u8 42,.int .u8 50,.int .u8 38,.int .u8 29,.int .u8 17,.int .u8 4,.int .u8 62,.int .u8 47,.int .u8 59,.int .u8 36,.int .u8 45,.int .u8 43,.int .u8 51,.int .u8 22,.int .u8 53,.int .u8 39,.int .u8 33,.int .u8 30,.int .u8 24,.int .u8 18,.int .u8 12,.int .u8 5,.int .u8 63,.int .u8 55,.int .u8 48,.int .u8 27,.int .u8 60,.int .u8 41,.int .u8 37,.int .u8 16,.int .u8 46,.int .u8 35,.int .u8 44,.int .u8 21,.int .u8 52,.int .u8 32,.int .u8 23,.int .u8 11,.int .u8 54,.int .u8 26,.int .u8 40,.int .u8 15,.int .u8 34,.int .u8 20,.int .u8 31,.int .u8 10,.int .u8 25,.int .u8 14,.int .u8 19,.int .u8 9,.int .u8 13,.int .u8 8,.int .u8 7,.int .u8 6])) }
theorem aYQ {W:World} (h:laidMetH Tryz.prog Rows.marginProofsRow.laid W):cK W:=by
 have h1:laidMet Tryz.prog [("math/bits.deBruijn64tab",Rows.laid_math_bits_deBruijn64tab)] W:=h
 exact EU (by kernel_rfl) h1 trivial
theorem aWW (H:Type) (enc:TypeId×Value->H) (W:World) (base:Nat) (args:Array Value) (ds gs:List (DataW H)) (before:List MemPlace)
  (fV:∀(j:Nat) t v,Tryz.f3.params[j]? = some t->args[j]? = some v->Value.okWide Tryz.prog W .any base t v)
  (hW:DataW.Whole enc Tryz.prog Tryz.f3.params.toList Rows.marginProofsSpec.vars false W args.toList ds gs before) (aan:cK W) :
  Calls Tryz.prog 3 args W λe W'=>∃v,e = .returned v/\Rows.marginProofsSpec.post enc Tryz.prog Tryz.f3 false true false false W args v W':=by
 have YR:=hW
 obtain⟨p,q,hA0,hV,rfl,hfz,hnd⟩:=hW
 have hA:DataW.TrodAll enc Tryz.prog W 0 (λ_=>true) true Tryz.f3.params.toList args.toList ds p:=hA0
 rw[Tryz.params3] at hA fV
 obtain⟨v0,vs0,d0,ds0,p0,q0,IE,rfl,rfl,h0,r0⟩:=trodAll_cons hA
 obtain⟨v1,vs1,d1,ds1,p1,q1,rfl,rfl,rfl,h1,r1⟩:=trodAll_cons r0
 obtain⟨v2,vs2,d2,ds2,p2,q2,rfl,rfl,rfl,h2,r2⟩:=trodAll_cons r1
 obtain⟨v3,vs3,d3,ds3,p3,q3,rfl,rfl,rfl,h3,r3⟩:=trodAll_cons r2
 obtain⟨v4,vs4,d4,ds4,p4,q4,rfl,rfl,rfl,h4,r4⟩:=trodAll_cons r3
 obtain⟨v5,vs5,d5,ds5,p5,q5,rfl,rfl,rfl,h5,r5⟩:=trodAll_cons r4
 obtain⟨v6,vs6,d6,ds6,p6,q6,rfl,rfl,rfl,h6,r6⟩:=trodAll_cons r5
 obtain⟨v7,vs7,d7,ds7,p7,q7,rfl,rfl,rfl,h7,r7⟩:=trodAll_cons r6
 obtain⟨rfl,rfl,rfl⟩:=trodAll_nil r7
 obtain rfl:args = #[v0,v1,v2,v3,v4,v5,v6,v7]:=by cases args;simp_all
 obtain⟨rfl,rfl⟩:=trodVars_none hV
 obtain⟨l0,s0,g0⟩:=aet Tryz.underlying22 Tryz.underlying3 (by kernel_rfl) (fV 0 22 v0 rfl rfl) h0
 obtain⟨l1,s1,g1⟩:=aet Tryz.underlying22 Tryz.underlying3 (by kernel_rfl) (fV 1 22 v1 rfl rfl) h1
 obtain⟨a2,rfl,rfl,rfl,w2⟩:=open_int Tryz.underlying3 (fV 2 3 v2 rfl rfl) h2
 obtain⟨a3,rfl,rfl,rfl,w3⟩:=open_int Tryz.underlying3 (fV 3 3 v3 rfl rfl) h3
 obtain⟨a4,rfl,rfl,rfl,w4⟩:=open_int Tryz.underlying3 (fV 4 3 v4 rfl rfl) h4
 obtain⟨a5,rfl,rfl,rfl,w5⟩:=open_int Tryz.underlying3 (fV 5 3 v5 rfl rfl) h5
 obtain⟨a6,rfl,rfl,rfl,w6⟩:=open_int Tryz.underlying3 (fV 6 3 v6 rfl rfl) h6
 obtain⟨a7,rfl,rfl,rfl,w7⟩:=open_int Tryz.underlying3 (fV 7 3 v7 rfl rfl) h7
 clear hA0
 refine(Mg (args:=[.k (.list (.int .i64)) l0,.k (.list (.int .i64)) l1,.k (.int .i64) a2,.k (.int .i64) a3,.k (.int .i64) a4,.k (.int .i64) a5,.k (.int .i64) a6,.k (.int .i64) a7]) (vs:=[v0,v1,.int .i64 a2,.int .i64 a3,.int .i64 a4,.int .i64 a5,.int .i64 a6,.int .i64 a7]) a2c rfl ⟨g0,g1,wf_i64 w2,wf_i64 w3,wf_i64 w4,wf_i64 w5,wf_i64 w6,wf_i64 w7⟩ aan ⟨s0,s1,(.mkInt _ _),(.mkInt _ _),(.mkInt _ _),(.mkInt _ _),(.mkInt _ _),(.mkInt _ _),trivial⟩).mono λe W' ⟨he,hg⟩=>?_
 subst he
 exact⟨_,rfl,OV rfl rfl (λt ht=>by
  rw[Tryz.params3] at ht;have bB:([22,22,3,3,3,3,3,3].all λu=>Tryz.prog.readableRec u&&decide (u<Tryz.prog.types.size))=true:=by kernel_rfl
  have:=yv.1 bB t (by simpa using ht);simpa using this) YR ⟨rfl,rfl,rfl⟩ hg⟩
theorem a0Z (os:Os):laidMet Tryz.prog Rows.marginProofsRow.laid ((aKL os).forCall (λ_ _=>0) ⟨#[],#[.slice none 0 0,.slice none 0 0,.int .i64 0,.int .i64 0,.int .i64 0,.int .i64 0,.int .i64 0,.int .i64 0],[]⟩).memory:=laidMet_of_run' 8 (by kernel_rfl) (by kernel_rfl)
theorem aYR (os:Os) {H:Type} (enc:TypeId×Value->H):∃places,DataW.whole enc Tryz.prog ((aKL os).forCall (λ_ _=>0) ⟨#[],#[.slice none 0 0,.slice none 0 0,.int .i64 0,.int .i64 0,.int .i64 0,.int .i64 0,.int .i64 0,.int .i64 0],[]⟩).memory Tryz.f3.params.toList Rows.marginProofsSpec.vars false (#[.slice none 0 0,.slice none 0 0,.int .i64 0,.int .i64 0,.int .i64 0,.int .i64 0,.int .i64 0,.int .i64 0]:Array Value).toList 8=some ([.nil,.nil,.lit (.int .i64 0),.lit (.int .i64 0),.lit (.int .i64 0),.lit (.int .i64 0),.lit (.int .i64 0),.lit (.int .i64 0)],[],places):=⟨[],by kernel_rfl⟩
theorem aXM (os:Os) (started:os.Started) (H:Type) (enc:TypeId×Value->H) (F:Stop.Interp) :
  ReturnsInHanded {} Tryz.checked os 3 .any ((OpenSpec.ofChange Rows.marginProofsSpec).preRow enc Tryz.prog Tryz.f3 Rows.marginProofsRow.domain false Rows.marginProofsRow.laid) (((OpenSpec.ofChange Rows.marginProofsSpec).at F).post enc Tryz.prog Tryz.f3 false true false false):=by
 obtain⟨places,hx⟩:=aYR os enc
 refine returnsInHanded_of_row (C:=Tryz.checked) (s:=OpenSpec.ofChange Rows.marginProofsSpec) own started (by kernel_rfl) Tryz.func3
  (witness_row_at (enc:=enc) (C:=Tryz.checked) false (aKL os) #[.slice none 0 0,.slice none 0 0,.int .i64 0,.int .i64 0,.int .i64 0,.int .i64 0,.int .i64 0,.int .i64 0] rfl (by kernel_rfl) (by kernel_rfl) (by kernel_rfl)
   (OpenSpec.preRow_of_cond 8 hx (by kernel_rfl) (λk hk=>by cases hk) (by kernel_rfl) (a0Z os))) ?_
 intro W base args ds gs before fV hW _ _ _ hL _ _
 exact aWW H enc W base args ds gs before fV hW (aYQ hL)
theorem aYS:Rows.MarginProofsSaid:=
 OpenClaim.holds_of_cond 3 Tryz.f3 rfl rfl rfl rfl rfl rfl rfl ⟨rfl,rfl,rfl,rfl,rfl⟩ rfl rfl rfl rfl rfl (by kernel_rfl) Tryz.func3 (by kernel_rfl)
  (AD (by kernel_rfl)) (by unfold Func.isWrapper;first | (rw[aV (by decide +kernel)];kernel_rfl) | (rw[aI (by decide +kernel)];exact⟨rfl,rfl⟩))
  (λos started H enc _ F=>by rw[OpenClaim.pre_eq_preRow];exact aXM os started H enc F)
theorem aYT (f:FuncId) (fn:Func) (hf:Tryz.pinned.checked.prog.funcNamed "abaculus/abaculuslaw32.MarginProofs" = some f) (hfn:Tryz.pinned.checked.prog.funcs[f]? = some fn) :
  false=Tryz.pinned.checked.prog.looks []/\∀(j:Nat) t,fn.params[j]? = some t->Tryz.pinned.checked.prog.wantsStandIn t=false:=by
 obtain rfl:f=3:=Option.some.inj ((show Tryz.prog.funcNamed "abaculus/abaculuslaw32.MarginProofs" = some 3 by kernel_rfl).symm.trans hf) |>.symm
 obtain rfl:fn=Tryz.f3:=(Option.some.inj (Tryz.func3.symm.trans hfn)).symm
 refine⟨by kernel_rfl,λj t ht=>?_⟩
 rw[Tryz.params3] at ht
 have hm:t∈[22,22,3,3,3,3,3,3]:=by simpa using Array.mem_of_getElem? ht
 have bB:([22,22,3,3,3,3,3,3].all λu=> !Tryz.prog.wantsStandIn u)=true:=by kernel_rfl
 exact(show Tryz.prog.wantsStandIn t=false by simpa using yv.1 bB t hm)
theorem marginProofsCard_holds:Rows.MarginProofsCardSaid:=Claim7.holds_tied_plain_at .later [] _ _ _ _ aYS (λ_ h=>by cases h) (by kernel_rfl) (λ_ h=>by cases h) marginProofs_row_tie rfl ⟨rfl,rfl⟩ (by kernel_rfl) rfl aYT (by kernel_rfl)
#print axioms marginProofsCard_holds
end Go.Proofs.YtlijkeolpmgioaaGreatDoor
