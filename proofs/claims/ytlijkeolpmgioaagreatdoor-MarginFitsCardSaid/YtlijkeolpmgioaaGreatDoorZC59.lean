/- rows of two sides have a widest street, with a proof, or weights by which both meet. MarginFits, by abstract execution. (Printed by vc.py.) law32.drawn and MarginFits, by abstract execution. (Printed by vc.py.) MarginFits: what the steps end in; the rows that are drawn. MarginMany, by abstract execution. (Printed by vc.py.) The document's widest street, by abstract execution. (Printed by vc.py.) margin.Same, Joins, Meet, Proof, by abstract execution. (Printed by vc.py.) margin.Fit, Same; chapter 32's known example; the document's errors; by abstract execution. (Printed by vc.py.) The document's lines of least squares, by abstract execution. (Printed by vc.py.) The document's determinants and inverses, by abstract execution. (Printed by vc.py.) elim.Det: determinants by elimination, by abstract execution. (Printed by vc.py.) The document's reduced forms, kernels, solutions, by abstract execution. (Printed by vc.py.) Chapter 12's statements: the line of least squares, by abstract execution. (Printed by vc.py.) Least squares: what a fitted line is. -/
import Derived.Test.YtlijkeolpmgioaaGreatDoorCards
import Derived.Test.YtlijkeolpmgioaaGreatDoorBd12
set_option maxRecDepth 100000
set_option linter.unusedVariables false
set_option linter.unusedSimpArgs false
set_option maxHeartbeats 1000000
namespace Go.Proofs.YtlijkeolpmgioaaGreatDoor.AM
section
variable {x:List (List Rat)} {y:List Rat} {r:Rat}
end
open Go.RowKit
def a4V:az:=⟨30,false,fun args=>match args with
 | [.k (.list (.int .i64)) l,.k (.int .i64) n,.k (.int .i64) m]=>some (some ((∀i,ax (l.getD i 0))/\((0:Int)<=n/\n<=1000000)/\(0:Int)<=m/\m<=1000000),.k (.list (.list .rq)) (aG n.toNat m.toNat fun i j=>cE l (i*m.toNat+j)),[])
 | _=>none⟩
theorem asq:aqn (cfg []) a4V:=ly agI fun args g r hn hc hg=>by
 split at hc
 ·rename_i l n m
  cases hc;obtain ⟨h1,⟨h2,h3⟩,h4,h5⟩:=hg;have h2 : @LE.le Int _ 0 n:=h2;have h3 : @LE.le Int _ n 1000000:=h3;have h4 : @LE.le Int _ 0 m:=h4;have h5 : @LE.le Int _ m 1000000:=h5;obtain ⟨a,rfl⟩:=Gm h2;obtain ⟨b,rfl⟩:=Gm h4;exact ⟨_,rfl,h1,by omega,by omega⟩
 ·cases hc
theorem arz {a:Int} (h:ax a):Sq 256 (a:Rat):=(Sq.int (k:=64) (Sm.lit (by unfold ax at h;omega)) (by omega)).le (by omega)
theorem asO {a:Int} (h:ax a):SL 256 [(a:Rat)]:=fun i=>match i with
 | 0=>arz h
 | _+1=>Sq.zero _ (by omega)
def SzQ (M:LM) (k:Nat) (x:Rat):Prop:=∀s,1<=s->SM s M->Sq (s*5^k) x
structure DI (M:LM) (k:Nat) (d:Rat) (F:Nat->Nat->Rat):Prop where
 det:acb M.length (el M) k d F
 szF:∀i j,SzQ M k (F i j)
 szD:SzQ M k d
section
variable {x:List (List Rat)} {y:List Rat} {r:Rat}
end
theorem aTF {x:Rat}:x.num.sign=0↔x=0:=by
 constructor
 ·intro h;have h1:¬x<0:=fun h2=>by have:=aO0.2 h2;omega
  have h3:¬0<x:=fun h2=>by have:=aUp.2 h2;omega
  grind
 ·intro h;rw [h];rfl
theorem NrG.aVw {M:List (List Rat)} {is:List Bool} (h:NrG M is):(akv M is).length=M.length/\HdW M.length (al M) (vMg M is) (ub is) (cw (akv M is))/\∃lm,OpW M.length (al M) (vMg M is) (ub is) (cw (akv M is)) lm:=by have S:=h.start;obtain ⟨a1,a2,a3⟩:=aSe (muW M.length (al M) (vMg M is) (ub is) (cw (stP is M.length 2))+1) S.lb S.hd (tU _);obtain ⟨lm,b1,_⟩:=aVW S.lb S.hd;have e:aZH M.length (al M) (vMg M is) (ub is) (muW M.length (al M) (vMg M is) (ub is) (cw (stP is M.length 2))+1) (stP is M.length 2)=akv M is:=S.en;rw [e] at a1 a2;rw [S.en] at b1;exact ⟨a2,a1,lm,b1⟩
theorem NrG.mg {M:List (List Rat)} {is:List Bool} (h:NrG M is):MgG M is (akv M is):=by obtain ⟨a1,a2,_⟩:=h.aVw;exact ⟨h.right,h.len,h.n24,h.w3,h.sM,a1,(h.hd a1 a2).le (by unfold GB;omega)⟩
noncomputable def aOu (M:List (List Rat)) (is:List Bool):Rat:=dW (wyL M is (akv M is)) (wyL M is (akv M is))
noncomputable def mfE (M:List (List Rat)) (is:List Bool):Int:=if chE M is=0 then (if aOu M is=0 then 8 else 0) else chE M is
noncomputable def mfW (M:List (List Rat)) (is:List Bool):List Rat:=if mfE M is=0 then wyL M is (akv M is) else []
noncomputable def mfB (M:List (List Rat)) (is:List Bool):Rat:=if mfE M is=0 then stQ M is (akv M is) else 0
noncomputable def mfD (M:List (List Rat)) (is:List Bool):Rat:=if mfE M is=0 then aOu M is else 0
noncomputable def mfY (M:List (List Rat)) (is:List Bool):List Rat:=if mfE M is=0 then akv M is else []
theorem aVx {M:List (List Rat)} {is:List Bool} {e:Int} (h:mfE M is=e) (h0:e≠0):((mfW M is=[]/\0=mfB M is)/\0=mfD M is/\mfY M is=[])/\e=mfE M is:=by
 have hn:¬mfE M is=0:=by rw [h];exact h0
 unfold mfW mfB mfD mfY;rw [aI hn,aI hn,aI hn,aI hn];exact ⟨⟨⟨rfl,rfl⟩,rfl,rfl⟩,h.symm⟩
theorem aUq {M:List (List Rat)} {is:List Bool} (h:mfE M is=0):((wyL M is (akv M is)=mfW M is/\stQ M is (akv M is)=mfB M is)/\aOu M is=mfD M is/\akv M is=mfY M is)/\0=mfE M is:=by unfold mfW mfB mfD mfY;rw [aV h,aV h,aV h,aV h];exact ⟨⟨⟨rfl,rfl⟩,rfl,rfl⟩,h.symm⟩
noncomputable def LJ6:List az:=aTd::aQS::aRB::Nj::[]
theorem aV7:bd LJ6:=⟨aTz,aRt,aSp,J0,trivial⟩
noncomputable def a5A:List AV->Option (Option Prop×AV×List Ob)
 | [.k (.list (.list .q)) M,.k (.list .bool) is]=>some (some (chE M is=0->NrG M is),T2 (.agg (.cons (.agg (.cons (.k (.list .q) (mfW M is)) (.cons (.k .q (mfB M is)) .nil))) (.cons (.k .q (mfD M is)) (.cons (.k (.list .q) (mfY M is)) .nil)))) (.k (.int .i64) (mfE M is)),[])
 | _=>none
noncomputable def aT3:az:=⟨26,false,a5A⟩
noncomputable def aVy (M:List (List Rat)) (is:List Bool):bk:=⟨nU,nL,nR,nU⟩
def aT4 (M:List (List Rat)) (is:List Bool):Prop:=
 let t1:=wyL M is (akv M is);
 bif !decide (chE M is=(0:Int)) then ((mfW M is=[]/\(0:Rat)=mfB M is)/\(0:Rat)=mfD M is/\mfY M is=[])/\chE M is=mfE M is else NrG M is/\MgG M is
 (akv M is)/\Sq BQ (dW t1 t1)/\bif decide ((dW t1 t1).num.sign=(0:Int)) then ((mfW M is=[]/\(0:Rat)=mfB M is)/\(0:Rat)=mfD M is/\mfY M is=[]) /\
 (8:Int)=mfE M is else ((wyL M is (akv M is)=mfW M is/\stQ M is (akv M is)=mfB M is)/\dW t1 t1=mfD M is/\akv M is=mfY M is)/\(0:Int)=mfE M is
theorem aUH (M:List (List Rat)) (is:List Bool):aw LJ6 [] (aVy M is) Tryz.f26 (T2 (.agg (.cons (.agg (.cons (.k (.list .q) (mfW M is)) (.cons (.k .q (mfB M is)) .nil))) (.cons (.k .q (mfD M is)) (.cons (.k (.list .q) (mfY M is)) .nil)))) (.k (.int .i64) (mfE M is))) [.k (.list (.list .q)) M,.k (.list .bool) is]=aT4 M is:=by kernel_rfl
theorem aUI (M:List (List Rat)) (is:List Bool) (hg:chE M is=0->NrG M is):aT4 M is:=by
 unfold aT4;dsimp only;refine dP (fun h=>aVx (aI h) h) fun h=>?_
 have g:=hg h;have hd:Sq 700000000 (dW (wyL M is (akv M is)) (wyL M is (akv M is))):=aVi g.mg.sw g.mg.sw g.mg.lw (by omega);refine ⟨g,g.mg,hd.le (by unfold BQ;omega),aH (fun h2=>?_) fun h2=>?_⟩
 ·have e:mfE M is=8:=by
   unfold mfE;rw [aV h];exact aV (aTF.1 h2)
  exact aVx e (by decide)
 ·have e:mfE M is=0:=by
   unfold mfE;rw [aV h];exact aI fun h3=>h2 (aTF.2 h3)
  exact aUq e
theorem aRD:aqn (cfg []) aT3:=cf aV7 bp Tryz.func26 fun a _ _ _ hc hg hf=>by change a5A a=_ at hc;unfold a5A at hc;split at hc <;> cases hc;cases aY (aUH _ _) (aUI _ _ hg);exact ⟨rfl,by kernel_rfl,_,by assumption⟩
def knM:List (List Rat):=[[((0:Int):Rat)],[((2:Int):Rat)]]
def knS:List Bool:=[false,true]
theorem aXY:chE knM knS=0:=by
 have h1:Shp knM knS:=⟨rfl,by decide,by decide,rfl⟩
 unfold chE;rw [aV h1,aI (by decide)];exact aI fun h=>absurd (h 1 (by decide)) (by decide)
theorem aVz:NrG knM knS:=by
 have i0:ax 0:=by unfold ax;omega
 have i2:ax 2:=by unfold ax;omega
 refine ⟨rfl,rfl,by decide,by decide,fun i=>match i with
  | 0=>asO i0
  | 1=>asO i2
  | _+2=>SL.nil (by omega),fun i j=>match i,j with
  | 0,0=>⟨0,by decide,by kernel_rfl⟩
  | 0,_+1=>⟨0,by decide,by kernel_rfl⟩
  | 1,0=>⟨24,by decide,by kernel_rfl⟩
  | 1,_+1=>⟨0,by decide,by kernel_rfl⟩
  | _+2,_=>⟨0,by decide,by kernel_rfl⟩,fun t=>match t with
  | true=>⟨1,by decide,rfl⟩
  | false=>⟨0,by decide,rfl⟩⟩
theorem aV8:cw (akv knM knS) 0=1/\cw (akv knM knS) 1=1:=by obtain ⟨_,_,lm,h⟩:=aVz.aVw;have h0:0+(if ub knS 0=false then cw (akv knM knS) 0 else 0)+(if ub knS 1=false then cw (akv knM knS) 1 else 0)=1:=h.sum false;have h1:0+(if ub knS 0=true then cw (akv knM knS) 0 else 0)+(if ub knS 1=true then cw (akv knM knS) 1 else 0)=1:=h.sum true;rw [aV (show ub knS 0=false from rfl),aI (show ¬ub knS 1=false by decide)] at h0;rw [aI (show ¬ub knS 0=true by decide),aV (show ub knS 1=true from rfl)] at h1;exact ⟨by grind,by grind⟩
theorem aVA:ptS knM knS (akv knM knS) true 2 0=2/\ptS knM knS (akv knM knS) false 2 0=0:=by
 obtain ⟨h0,h1⟩:=aV8;have e0:el knM 0 0=0:=by kernel_rfl
 have e1:el knM 1 0=2:=by kernel_rfl
 constructor
 ·show 0+(if ub knS 0=true then el knM 0 0*cw (akv knM knS) 0 else 0)+(if ub knS 1=true then el knM 1 0*cw (akv knM knS) 1 else 0)=2;rw [aI (show ¬ub knS 0=true by decide),aV (show ub knS 1=true from rfl),h1,e1];grind
 ·show 0+(if ub knS 0=false then el knM 0 0*cw (akv knM knS) 0 else 0)+(if ub knS 1=false then el knM 1 0*cw (akv knM knS) 1 else 0)=0;rw [aV (show ub knS 0=false from rfl),aI (show ¬ub knS 1=false by decide),h0,e0];grind
theorem aVB (t:Bool):ptL knM knS (akv knM knS) t=[ptS knM knS (akv knM knS) t 2 0]:=rfl
theorem aVC:wyL knM knS (akv knM knS)=[2]:=by obtain ⟨h0,h1⟩:=aVA;have e:wyL knM knS (akv knM knS)=[ptS knM knS (akv knM knS) true 2 0-ptS knM knS (akv knM knS) false 2 0]:=rfl;rw [e,h0,h1];congr 1;grind
theorem aV9:mfE knM knS=0/\mfW knM knS=[2]/\mfB knM knS = -2/\mfD knM knS=4:=by
 have hd:aOu knM knS=4:=by unfold aOu;rw [aVC];kernel_rfl
 have he:mfE knM knS=0:=by unfold mfE;rw [aV aXY,hd];exact aI (by decide)
 obtain ⟨⟨⟨a1,a2⟩,a3,_⟩,_⟩:=aUq he;refine ⟨he,by rw [<-a1];exact aVC,?_,by rw [<-a3];exact hd⟩;rw [<-a2];unfold stQ;obtain ⟨h0,h1⟩:=aVA;rw [aVB,aVB,h0,h1];kernel_rfl
noncomputable def LJ7:List az:=aa5::aa9::aT3::[]
theorem aWa:bd LJ7:=⟨V5,WS,aRD,trivial⟩
def a3I:List AV->Option (Option Prop×AV×List Ob)
 | []=>some (none,.k .bool true,[])
 | _=>none
def aTG:az:=⟨13,false,a3I⟩
def aT5  : bk:=⟨nU,nL,nR,nU⟩
def aQT  : Prop:=
 let t1:=mfW [[(↑(0:Int):Rat)],[(↑(2:Int):Rat)]] [false,true];
 ax (0:Int)/\ax (2:Int)/\(chE [[(↑(0:Int):Rat)],[(↑(2:Int):Rat)]] [false,true]=(0:Int)->NrG [[(↑(0:Int):Rat)],[(↑(2:Int):Rat)]] [false,
 true])/\(t1.length<=aB->((0:Int)<=(0:Int)/\(0:Int)<(↑t1.length:Int))/\(Sq BQ (t1.getD (Int.toNat (0:Int)) (0:Rat))/\ax (2:Int)/\ax (1:Int)
 /\ (1:Int)≠(0:Int))/\(Sq BQ (mfB [[(↑(0:Int):Rat)],[(↑(2:Int):Rat)]] [false,true])/\ax (-2:Int)/\ax (1:Int)/\(1:Int)≠(0:Int))/\(Sq BQ
 (mfD [[(↑(0:Int):Rat)],[(↑(2:Int):Rat)]] [false,true])/\ax (4:Int)/\ax (1:Int)/\(1:Int)≠(0:Int))/\decide (mfD [[(↑(0:Int):Rat)],[(↑(2 :
 Int):Rat)]] [false,true]=(↑(4:Int):Rat)/(↑(1:Int):Rat))=true)
theorem aTH  : aw LJ7 [] (aT5 ) Tryz.f13 (.k .bool true) []=aQT  :=by kernel_rfl
theorem aTJ  (hf:cJ []):aQT  :=by
 obtain ⟨e0,e1,e2,e3⟩:=aV9;have i0:ax 0:=by unfold ax;omega
 have i1:ax 1:=by unfold ax;omega
 have i2:ax 2:=by unfold ax;omega
 have im:ax (-2):=by unfold ax;omega
 have i4:ax 4:=by unfold ax;omega
 have hB:(256:Nat)<=BQ:=by unfold BQ;omega
 unfold aQT;dsimp only;change ax 0/\ax 2/\(chE knM knS=0->NrG knM knS)/\((mfW knM knS).length<=aB->(_/\(0:Int)<((mfW knM knS).length:Int))/\(Sq BQ ((mfW knM knS).getD _ 0)/\_)/\(Sq BQ (mfB knM knS)/\_)/\(Sq BQ (mfD knM knS)/\_)/\decide (mfD knM knS=_)=true)
 rw [e1,e2,e3];exact ⟨i0,i2,fun _=>aVz,fun _=>⟨⟨by omega,by decide⟩,⟨(arz i2).le hB,i2,i1,by decide⟩,⟨(arz im).le hB,im,i1,by decide⟩,⟨(arz i4).le hB,i4,i1,by decide⟩,by kernel_rfl⟩⟩
theorem aTK:aqn (cfg []) aTG:=cf aWa bp Tryz.func13 fun a _ _ _ hc hg hf=>by change a3I a=_ at hc;unfold a3I at hc;split at hc <;> cases hc;cases aY (aTH ) (aTJ  hf);exact ⟨rfl,by kernel_rfl,_,by assumption⟩
noncomputable def LJ8:List az:=ye::[]
theorem aWb:bd LJ8:=⟨uA,trivial⟩
def a3J:List AV->Option (Option Prop×AV×List Ob)
 | [.k (.list (.list .rq)) M]=>some (none,.k .bool (bif aqJ M then (bif decide (M.length<=300) then decide (al M<=20) else false) else false),[])
 | _=>none
def aTL:az:=⟨41,false,a3J⟩
def aT6 (M:List (List Rat)):bk:=⟨nU,nL,nR,nU⟩
def aQY (M:List (List Rat)):Prop:=bif aqJ M then M.length<=aB->bif decide ((↑M.length:Int)<=(300:Int)) then ((0:Int)<=(0:Int)/\(0:Int)<(↑M.length:Int))/\((M.getD (Int.toNat (0 :
 Int)) []).length<=aB->decide ((↑(M.getD (Int.toNat (0:Int)) []).length:Int)<=(20:Int))=bif aqJ M then bif decide (M.length<=(300:Nat)) then decide
 (al M<=(20:Nat)) else false else false) else false=bif aqJ M then bif decide (M.length<=(300:Nat)) then decide (al M<=(20:Nat)) else false else false
 else false=bif aqJ M then bif decide (M.length<=(300:Nat)) then decide (al M<=(20:Nat)) else false else false
theorem aTM (M:List (List Rat)):aw LJ8 [] (aT6 M) Tryz.f41 (.k .bool (bif aqJ M then (bif decide (M.length<=300) then decide (al M<=20) else false) else false)) [.k (.list (.list .rq)) M]=aQY M:=by kernel_rfl
theorem aTN (M:List (List Rat)) (hf:cJ [.k (.list (.list .rq)) M]):aQY M:=by
 unfold aQY
 cases hR:aqJ M with
 | false=>rfl
 | true=>
  obtain ⟨m1,m2,m3⟩:=ba hR;simp only [ia];refine fun _=>aH (fun h=>⟨⟨by omega,by omega⟩,fun _=>?_⟩) fun h=>?_
  ·rw [j3 (show M.length<=300 by omega),ia];exact yv.2 (by show ((al M:Nat):Int)<=20↔al M<=20;omega)
  ·rw [fh (show ¬M.length<=300 by omega),qZ]
theorem aTO:aqn (cfg []) aTL:=cf aWb bp Tryz.func41 fun a _ _ _ hc hg hf=>by change a3J a=_ at hc;unfold a3J at hc;split at hc <;> cases hc;cases aY (aTM _) (aTN _ hf);exact ⟨rfl,by kernel_rfl,_,by assumption⟩
noncomputable def LJ9:List az:=aTL::[]
theorem aWc:bd LJ9:=⟨aTO,trivial⟩
def a3K:List AV->Option (Option Prop×AV×List Ob)
 | [.k (.list (.list .rq)) M,.k (.list .bool) is]=>some (none,.k (.int .i64) (chE M is),[])
 | _=>none
def aTP:az:=⟨12,false,a3K⟩
def aT7 (M:List (List Rat)) (is:List Bool):bk:=⟨fun key_=>match key_ with | 8=>7 | _=>0,fun key_=>match key_ with
 | 6=>some (⟨Nat,fun i=>[(1,.k (.list .bool) is),(5,.k (.int .i64) ((i+1:Nat):Int))],
 fun _=>[],fun _ i=>i+1<=is.length/\1<=is.length/\∀j,j<i+1->ub is j=ub is 0,fun i=>is.length-i⟩) | _=>none,nR,nU⟩
def aQ0 (M:List (List Rat)) (is:List Bool):Prop:=bif !bif aqJ M then bif decide (M.length<=(300:Nat)) then decide (al M<=(20:Nat)) else false else false then (5:Int)=chE M is else is.length<=aB ->
 M.length<=aB->bif !decide ((↑is.length:Int)=(↑M.length:Int)) then (5:Int)=chE M is else M.length<=aB->bif decide ((24:Int)<(↑M.length:Int)) then (4
 : Int)=chE M is else ∃(x0:Nat),(is=is/\(1:Int)=(↑(x0+(1:Nat)):Int))/\(x0+(1:Nat)<=is.length/\(1:Nat)<=is.length/\∀(j:Nat),j<x0+(1 :
 Nat)->ub is j=ub is (0:Nat))/\∀(x:Nat),let u1:=(↑(x+(1:Nat)):Int);(x+(1:Nat)<=is.length/\(1:Nat)<=is.length/\∀(j:Nat),j<x+(1:Nat) ->
 ub is j=ub is (0:Nat))->is.length<=aB->bif decide (u1<(↑is.length:Int)) then ((0:Int)<=u1/\u1<(↑is.length:Int))/\((0:Int)<=(0:Int)/\(0:Int) <
 (↑is.length:Int))/\bif !is.getD u1.toNat false == is.getD (Int.toNat (0:Int)) false then (0:Int)=chE M is else ax (u1+(1:Int))/\∃(x':Nat),(is=is /\
 u1+(1:Int)=(↑(x'+(1:Nat)):Int))/\(x'+(1:Nat)<=is.length/\(1:Nat)<=is.length/\∀(j:Nat),j<x'+(1:Nat)->ub is j=ub is (0:Nat)) /\
 is.length-x'<is.length-x else (7:Int)=chE M is
theorem aTQ (M:List (List Rat)) (is:List Bool):aw LJ9 [] (aT7 M is) Tryz.f12 (.k (.int .i64) (chE M is)) [.k (.list (.list .rq)) M,.k (.list .bool) is]=aQ0 M is:=by kernel_rfl
theorem aTR (M:List (List Rat)) (is:List Bool) (hf:cJ [.k (.list (.list .rq)) M,.k (.list .bool) is]):aQ0 M is:=by
 have no:¬Shp M is->(5:Int)=chE M is:=fun h=>(aI h).symm;unfold aQ0
 cases hL:(bif aqJ M then bif decide (M.length<=300) then decide (al M<=20) else false else false) with
 | false=>exact no fun hs=>by rw [hs.1,ia,j3 hs.2.1,ia,j3 hs.2.2.1] at hL;cases hL
 | true=>
  have h3:aqJ M=true/\M.length<=300/\al M<=20:=by
   cases hR:aqJ M with
   | false=>rw [hR] at hL;cases hL
   | true=>
    rw [hR,ia] at hL
    cases h4:decide (M.length<=300) with
    | false=>rw [h4] at hL;cases hL
    | true=>rw [h4,ia] at hL;exact ⟨rfl,CW h4,CW hL⟩
  rw [show (!true)=false from rfl,qZ];refine fun _ _=>dP (fun h=>no fun hs=>h (by have:=hs.2.2.2;omega)) fun h _=>?_;have hS:Shp M is:=⟨h3.1,h3.2.1,h3.2.2,by omega⟩
  have eC:chE M is=if 24<M.length then 4 else chI is:=aV hS
  have hp:=(ba h3.1).1;rw [eC];refine aH (fun h6=>(aV (by omega)).symm) fun h6=>?_;rw [aI (by omega)];refine ⟨0,⟨rfl,rfl⟩,⟨by omega,by omega,fun j hj=>by rw [show j=0 by omega]⟩,fun i ⟨hi,h1,bB⟩ _=>aH (fun h7=>?_) fun h7=>?_⟩
  ·have hi':i+1<is.length:=by omega
   refine ⟨⟨by omega,h7⟩,⟨by omega,by omega⟩,?_⟩;change bif !(ub is (i+1) == ub is 0) then _ else _
   cases e:(ub is (i+1) == ub is 0) with
   | false=>show (0:Int)=chI is;exact (aI fun hf=>by rw [hf (i+1) hi',beq_self_eq_true] at e;cases e).symm
   | true=>
    rw [show (!true)=false from rfl,qZ];refine ⟨by unfold ax;omega,i+1,⟨rfl,rfl⟩,⟨by omega,h1,fun j hj=>?_⟩,by omega⟩;rcases bF j (i+1) with h4 | h4
    ·exact bB j h4
    ·rw [show j=i+1 by omega];exact Ly e
  ·exact (aV fun j hj=>bB j (by omega)).symm
theorem aTS:aqn (cfg []) aTP:=cf aWc bp Tryz.func12 fun a _ _ _ hc hg hf=>by change a3K a=_ at hc;unfold a3K at hc;split at hc <;> cases hc;cases aY (aTQ _ _) (aTR _ _ hf);exact ⟨rfl,by kernel_rfl,_,by assumption⟩
def joB (M:List (List Rat)) (is:List Bool) (b:List Rat):Bool:=bif decide (WtP b is) then decide (ptL M is b true=ptL M is b false) else false
def PrP (M:List (List Rat)) (is:List Bool) (W:List Rat) (B D:Rat) (Y:List Rat):Prop:=WtP Y is/\W=wyL M is Y/\B=stQ M is Y/\D=dW (wyL M is Y) (wyL M is Y)/\0<D/\∀i,i<M.length->aGr M is Y i=false
instance (M:List (List Rat)) (is:List Bool) (W:List Rat) (B D:Rat) (Y:List Rat):Decidable (PrP M is W B D Y):=by unfold PrP;infer_instance
def PrC (M:List (List Rat)) (is:List Bool) (W:List Rat) (B D:Rat) (Y:List Rat):Prop:=chE M is=0/\PrP M is W B D Y
instance (M:List (List Rat)) (is:List Bool) (W:List Rat) (B D:Rat) (Y:List Rat):Decidable (PrC M is W B D Y):=by unfold PrC;infer_instance
def SlP (W V:List Rat) (B A:Rat):Prop:=W=V/\B=A
instance (W V:List Rat) (B A:Rat):Decidable (SlP W V B A):=by unfold SlP;infer_instance
def SmP (W V:List Rat) (B A D E:Rat):Prop:=W=V/\B=A/\D=E
instance (W V:List Rat) (B A D E:Rat):Decidable (SmP W V B A D E):=by unfold SmP;infer_instance
noncomputable def meE (M:List (List Rat)) (is:List Bool):Int:=if chE M is=0 then (if joB M is (akv M is)=true then 0 else 7) else chE M is
noncomputable def meY (M:List (List Rat)) (is:List Bool):List Rat:=if meE M is=0 then akv M is else []
theorem NrG.wt {M:List (List Rat)} {is:List Bool} (h:NrG M is):WtP (akv M is) is:=by
 obtain ⟨a1,a2,lm,O⟩:=h.aVw;refine ⟨by rw [a1,h.len],fun i _=>a2.nn i,?_,?_⟩
 ·rw [a1];exact O.sum true
 ·rw [a1];exact O.sum false
structure NyG (M:List (List Rat)) (is:List Bool) (b:List Rat):Prop where
 nr:chE M is=0->NrG M is
 n24:b.length<=24
 sb:SL GB b
theorem NyG.mg {M:List (List Rat)} {is:List Bool} {b:List Rat} (h:NyG M is b) (h0:chE M is=0) (hw:WtP b is):MgG M is b:=by have g:=h.nr h0;exact ⟨g.right,g.len,g.n24,g.w3,g.sM,by rw [hw.1,g.len],h.sb⟩
theorem NrG.ny {M:List (List Rat)} {is:List Bool} (h:NrG M is):NyG M is (akv M is):=⟨fun _=>h,by rw [h.aVw.1];exact h.n24,h.mg.sb⟩
noncomputable def aZM:List az:=ND::Ke::[]
theorem aZx:bd aZM:=⟨KP,z7,trivial⟩
def a3L:List AV->Option (Option Prop×AV×List Ob)
 | [.agg (.cons (.k (.list .q) W) (.cons (.k .q B) .nil)),.agg (.cons (.k (.list .q) V) (.cons (.k .q A) .nil))]=>some (some ((SL BQ W/\SL BQ V)/\Sq BQ B/\Sq BQ A),.k .bool (decide (SlP W V B A)),[])
 | _=>none
def aYc:az:=⟨81,false,a3L⟩
def aYU (W:List Rat) ( B:Rat) (V:List Rat) ( A:Rat):bk:=⟨nU,nL,nR,nU⟩
def aXa (W:List Rat) ( B:Rat) (V:List Rat) ( A:Rat):Prop:=(SL BQ W/\SL BQ V)/\bif decide (W=V) then (Sq BQ B/\Sq BQ A)/\decide (fS B A=(0:Int))=decide (SlP W V B A) else false=decide (SlP W V B A)
theorem aYd (W:List Rat) ( B:Rat) (V:List Rat) ( A:Rat):aw aZM [] (aYU W B V A) Tryz.f81 (.k .bool (decide (SlP W V B A))) [.agg (.cons (.k (.list .q) W) (.cons (.k .q B) .nil)),.agg (.cons (.k (.list .q) V) (.cons (.k .q A) .nil))]=aXa W B V A:=by kernel_rfl
theorem aYg (W:List Rat) ( B:Rat) (V:List Rat) ( A:Rat) (hg:(SL BQ W/\SL BQ V)/\Sq BQ B/\Sq BQ A):aXa W B V A:=by obtain ⟨h1,h2⟩:=hg;unfold aXa;refine ⟨h1,aH (fun e=>⟨h2,yv.2 ⟨fun h=>⟨e,gz.1 h⟩,fun h=>gz.2 h.2⟩⟩) fun e=>(fh fun h=>e h.1).symm⟩
theorem aYh:aqn (cfg []) aYc:=cf aZx bp Tryz.func81 fun a _ _ _ hc hg hf=>by change a3L a=_ at hc;unfold a3L at hc;split at hc <;> cases hc;cases aY (aYd _ _ _ _) (aYg _ _ _ _ hg);exact ⟨rfl,by kernel_rfl,_,by assumption⟩
noncomputable def a0g:List az:=aYc::Ke::[]
theorem aZN:bd a0g:=⟨aYh,z7,trivial⟩
def a3M:List AV->Option (Option Prop×AV×List Ob)
 | [.agg (.cons (.agg (.cons (.k (.list .q) W) (.cons (.k .q B) .nil))) (.cons (.k .q D) (.cons (.k (.list .q) Y) .nil))),.agg (.cons (.agg (.cons (.k (.list .q) V) (.cons (.k .q A) .nil))) (.cons (.k .q E) (.cons (.k (.list .q) Z) .nil)))]=>some (some (((SL BQ W/\SL BQ V)/\Sq BQ B/\Sq BQ A)/\Sq BQ D/\Sq BQ E),.k .bool (decide (SmP W V B A D E)),[])
 | _=>none
def aYi:az:=⟨50,false,a3M⟩
def aYV (W:List Rat) ( B  D:Rat) ( Y V:List Rat) ( A  E:Rat) ( Z:List Rat):bk:=⟨nU,nL,nR,nU⟩
def aXb (W:List Rat) ( B  D:Rat) ( Y V:List Rat) ( A  E:Rat) ( Z:List Rat):Prop:=((SL BQ W/\SL BQ V)/\Sq BQ B/\Sq BQ A)/\bif decide (SlP W V B A) then (Sq BQ D/\Sq BQ E)/\decide (fS D E=(0:Int))=decide (SmP W V B A D E) else false =
 decide (SmP W V B A D E)
theorem aYj (W:List Rat) ( B  D:Rat) ( Y V:List Rat) ( A  E:Rat) ( Z:List Rat):aw a0g [] (aYV W B D Y V A E Z) Tryz.f50 (.k .bool (decide (SmP W V B A D E))) [.agg (.cons (.agg (.cons (.k (.list .q) W) (.cons (.k .q B) .nil))) (.cons (.k .q D) (.cons (.k (.list .q) Y) .nil))),.agg (.cons (.agg (.cons (.k (.list .q) V) (.cons (.k .q A) .nil))) (.cons (.k .q E) (.cons (.k (.list .q) Z) .nil)))]=aXb W B D Y V A E Z:=by kernel_rfl
theorem aYk (W:List Rat) ( B  D:Rat) ( Y V:List Rat) ( A  E:Rat) ( Z:List Rat) (hg:((SL BQ W/\SL BQ V)/\Sq BQ B/\Sq BQ A)/\Sq BQ D/\Sq BQ E) (hf:cJ [.agg (.cons (.agg (.cons (.k (.list .q) W) (.cons (.k .q B) .nil))) (.cons (.k .q D) (.cons (.k (.list .q) Y) .nil))),.agg (.cons (.agg (.cons (.k (.list .q) V) (.cons (.k .q A) .nil))) (.cons (.k .q E) (.cons (.k (.list .q) Z) .nil)))]):aXb W B D Y V A E Z:=by obtain ⟨h1,h2⟩:=hg;unfold aXb;refine ⟨h1,aH (fun e=>⟨h2,yv.2 ⟨fun h=>⟨e.1,e.2,gz.1 h⟩,fun h=>gz.2 h.2.2⟩⟩) fun e=>(fh fun h=>e ⟨h.1,h.2.1⟩).symm⟩
theorem aYl:aqn (cfg []) aYi:=cf aZN bp Tryz.func50 fun a _ _ _ hc hg hf=>by change a3M a=_ at hc;unfold a3M at hc;split at hc <;> cases hc;cases aY (aYj _ _ _ _ _ _ _ _) (aYk _ _ _ _ _ _ _ _ hg hf);exact ⟨rfl,by kernel_rfl,_,by assumption⟩
noncomputable def aZe:List az:=aYi::aTd::aWJ::aRA::aVm::aRB::aQS::ND::Nj::Ke::[]
theorem aXc:bd aZe:=⟨aYl,aTz,aW8,aSj,aUE,aSp,aRt,KP,J0,z7,trivial⟩
def a3N:List AV->Option (Option Prop×AV×List Ob)
 | [.k (.list .q) b,.k (.list (.list .q)) M,.k (.list .bool) is]=>some (some (NyG M is b),.k .bool (bif decide (chE M is=0) then joB M is b else false),[])
 | _=>none
def aXd:az:=⟨14,false,a3N⟩
def aYW (b:List Rat) (M:List (List Rat)) (is:List Bool):bk:=⟨nU,nL,nR,nU⟩
def aXe (b:List Rat) (M:List (List Rat)) (is:List Bool):Prop:=bif !decide (chE M is=(0:Int)) then false=bif decide (chE M is=(0:Int)) then joB M is b else false else (b.length<=(24:Nat)/\SL GB b)/\bif !decide (WtP b
 is) then false=bif decide (chE M is=(0:Int)) then joB M is b else false else MgG M is b/\(SL BQ (ptL M is b true)/\SL BQ (ptL M is b false))/\decide (ptL M is b
 true=ptL M is b false)=bif decide (chE M is=(0:Int)) then joB M is b else false
theorem aYm (b:List Rat) (M:List (List Rat)) (is:List Bool):aw aZe [] (aYW b M is) Tryz.f14 (.k .bool (bif decide (chE M is=0) then joB M is b else false)) [.k (.list .q) b,.k (.list (.list .q)) M,.k (.list .bool) is]=aXe b M is:=by kernel_rfl
theorem aYn (b:List Rat) (M:List (List Rat)) (is:List Bool) (hg:NyG M is b):aXe b M is:=by have n1:=hg.n24;have n2:=hg.sb;unfold aXe;refine dP (fun h=>by rw [fh h,qZ]) fun h=>?_;rw [j3 h,ia];unfold joB;refine ⟨⟨n1,n2⟩,dP (fun h2=>by rw [fh h2,qZ]) fun h2=>?_⟩;rw [j3 h2,ia];have g:=hg.mg h h2;exact ⟨g,⟨(g.sp true).le (by unfold BQ;omega),(g.sp false).le (by unfold BQ;omega)⟩,rfl⟩
theorem aWL:aqn (cfg []) aXd:=cf aXc bp Tryz.func14 fun a _ _ _ hc hg hf=>by change a3N a=_ at hc;unfold a3N at hc;split at hc <;> cases hc;cases aY (aYm _ _ _) (aYn _ _ _ hg);exact ⟨rfl,by kernel_rfl,_,by assumption⟩
def a3O:List AV->Option (Option Prop×AV×List Ob)
 | [.agg (.cons (.agg (.cons (.k (.list .q) W) (.cons (.k .q B) .nil))) (.cons (.k .q D) (.cons (.k (.list .q) Y) .nil))),.k (.list (.list .q)) M,.k (.list .bool) is]=>some (some (NyG M is Y/\SL BQ W/\Sq BQ B/\Sq BQ D),.k .bool (decide (PrC M is W B D Y)),[])
 | _=>none
def aYo:az:=⟨18,false,a3O⟩
def aYX (W:List Rat) ( B  D:Rat) ( Y:List Rat) (M:List (List Rat)) (is:List Bool):bk:=⟨fun key_=>match key_ with | 3=>6 | _=>0,fun key_=>match key_ with
 | 8=>some (⟨Nat,fun i=>[(2,.k (.list .bool) is),(7,.k (.list .q) (ptL M is Y true)),(8,.k (.list .q) (ptL M is Y false)),(9,.k (.list .q) W),(48,.k (.list (.list .q)) M),(49,.k (.int .i64) ((M.length:Nat):Int)),(50,.k (.int .i64) ((i:Nat):Int))],
 fun _=>[],fun _ i=>i<=M.length/\∀j,j<i->aGr M is Y j=false,fun i=>M.length-i⟩) | _=>none,nR,nU⟩
def aUS (W:List Rat) ( B  D:Rat) ( Y:List Rat) (M:List (List Rat)) (is:List Bool) (x:Nat):Prop:=((0:Int)<=(↑x:Int)/\(↑x:Int)<(↑is.length:Int))/\bif !is.getD (↑x:Int).toNat false then (W.length=(M.getD (↑x:Int).toNat []).length/\lM W (M.getD (↑x
 : Int).toNat []))/\(W.length=(ptL M is Y false).length/\lM W (ptL M is Y false))/\(Sq BQ (dW W (M.getD (↑x:Int).toNat []))/\Sq BQ (dW W (ptL M is Y false)))
 /\ bif decide ((0:Int)<fS (dW W (M.getD (↑x:Int).toNat [])) (dW W (ptL M is Y false))) then false=decide (PrC M is W B D Y) else ax ((↑x:Int)+(1 :
 Int))/\∃(x':Nat),(is=is/\ptL M is Y true=ptL M is Y true/\ptL M is Y false=ptL M is Y false/\W=W/\M=M/\(↑M.length:Int)=(↑M.length:Int)/\(↑x :
 Int)+(1:Int)=(↑x':Int))/\(x'<=M.length/\∀(j:Nat),j<x'->aGr M is Y j=false)/\M.length-x'<M.length-x else ax ((↑x:Int)+(1:Int))/\∃(x'
 : Nat),(is=is/\ptL M is Y true=ptL M is Y true/\ptL M is Y false=ptL M is Y false/\W=W/\M=M/\(↑M.length:Int)=(↑M.length:Int)/\(↑x:Int)+(1 :
 Int)=(↑x':Int))/\(x'<=M.length/\∀(j:Nat),j<x'->aGr M is Y j=false)/\M.length-x'<M.length-x
def aXf (W:List Rat) ( B  D:Rat) ( Y:List Rat) (M:List (List Rat)) (is:List Bool):Prop:=bif !decide (chE M is=(0:Int)) then false=decide (PrC M is W B D Y) else (Y.length<=(24:Nat)/\SL GB Y)/\bif !decide (WtP Y is) then false=decide (PrC M is W
 B D Y) else MgG M is Y/\(((SL BQ W/\SL BQ (wyL M is Y))/\Sq BQ B/\Sq BQ (stQ M is Y))/\Sq BQ D/\Sq BQ (dW (wyL M is Y) (wyL M is Y)))/\bif !decide (SmP W (wyL M
 is Y) B (stQ M is Y) D (dW (wyL M is Y) (wyL M is Y))) then false=decide (PrC M is W B D Y) else Sq BQ D/\bif decide (D.num.sign<=(0:Int)) then false=decide
 (PrC M is W B D Y) else MgG M is Y/\(M.length<=aB->∃(x0:Nat),(is=is/\ptL M is Y true=ptL M is Y true/\ptL M is Y false=ptL M is Y false/\W=W/\M=M /\
 (↑M.length:Int)=(↑M.length:Int)/\(0:Int)=(↑x0:Int))/\(x0<=M.length/\∀(j:Nat),j<x0->aGr M is Y j=false)/\∀(x:Nat),
 let u1:=M.getD (↑x:Int).toNat [];(x<=M.length/\∀(j:Nat),j<x->aGr M is Y j=false)->bif decide ((↑x:Int)<(↑M.length:Int)) then ((0:Int)<=(↑x :
 Int)/\(↑x:Int)<(↑M.length:Int))/\((0:Int)<=(↑x:Int)/\(↑x:Int)<(↑is.length:Int))/\bif is.getD (↑x:Int).toNat false then (W.length=u1.length/\lM
 W u1)/\(W.length=(ptL M is Y true).length/\lM W (ptL M is Y true))/\(Sq BQ (dW W u1)/\Sq BQ (dW W (ptL M is Y true)))/\bif decide (fS (dW W u1) (dW W
 (ptL M is Y true))<(0:Int)) then false=decide (PrC M is W B D Y) else aUS W B D Y M is x else aUS W B D Y M is x else true=decide (PrC M is W B D Y))
theorem aYp (W:List Rat) ( B  D:Rat) ( Y:List Rat) (M:List (List Rat)) (is:List Bool):aw aZe [] (aYX W B D Y M is) Tryz.f18 (.k .bool (decide (PrC M is W B D Y))) [.agg (.cons (.agg (.cons (.k (.list .q) W) (.cons (.k .q B) .nil))) (.cons (.k .q D) (.cons (.k (.list .q) Y) .nil))),.k (.list (.list .q)) M,.k (.list .bool) is]=aXf W B D Y M is:=by kernel_rfl
theorem aYq (W:List Rat) ( B  D:Rat) ( Y:List Rat) (M:List (List Rat)) (is:List Bool) (hg:NyG M is Y/\SL BQ W/\Sq BQ B/\Sq BQ D):aXf W B D Y M is:=by
 obtain ⟨hy,sW,sB,sD⟩:=hg;have n1:=hy.n24;have n2:=hy.sb;unfold aXf;dsimp only;refine dP (fun h=>(fh fun e=>h e.1).symm) fun h=>⟨⟨n1,n2⟩,dP (fun h2=>(fh fun e=>h2 e.2.1).symm) fun h2=>?_⟩
 have g:=hy.mg h h2;obtain ⟨m1,m2,m3⟩:=ba g.right;have hl:=g.len;have h24:=g.n24;have hd:∀t,Sq 700000000 (dW (ptL M is Y t) (ptL M is Y t)):=fun t=>aVi (g.sp t) (g.sp t) (g.lp t) (by omega);have hw:Sq 700000000 (dW (wyL M is Y) (wyL M is Y)):=aVi g.sw g.sw g.lw (by omega);have hs:Sq BQ (stQ M is Y):=by unfold stQ;exact (((hd false).sub (hd true)).div (k:=64) Sq.atH (by decide)).le (by unfold BQ;omega)
 have hp:∀t,Sq BQ (dW (wyL M is Y) (ptL M is Y t)):=fun t=>(aVi g.sw (g.sp t) g.lw (by omega)).le (by unfold BQ;omega);have hr:∀i,Sq BQ (dW (wyL M is Y) (M.getD i [])):=fun i=>(aVi g.sw (g.sM i) g.lw (by omega)).le (by unfold BQ;omega);refine ⟨g,⟨⟨⟨sW,g.sw.le (by unfold BQ;omega)⟩,sB,hs⟩,sD,hw.le (by unfold BQ;omega)⟩,dP (fun h3=>(fh fun e=>h3 ⟨e.2.2.1,e.2.2.2.1,e.2.2.2.2.1⟩).symm) fun h3=>?_⟩;obtain ⟨rfl,rfl,rfl⟩:=h3;refine ⟨sD,aH (fun h4=>(fh fun e=>?_).symm) fun h4=>?_⟩
 ·have:=aUp.2 e.2.2.2.2.2.1;omega
 have hD:0<dW (wyL M is Y) (wyL M is Y):=aUp.1 (by omega);refine ⟨g,fun _=>⟨0,⟨rfl,rfl,rfl,rfl,rfl,rfl,rfl⟩,⟨fi _,fun j hj=>absurd hj (iQ j)⟩,fun k ⟨hk,bB⟩=>aH (fun h5=>?_) fun h5=>(j3 ⟨h,h2,rfl,rfl,rfl,hD,fun j hj=>bB j (by omega)⟩).symm⟩⟩;have sF:k<M.length:=by omega
 have nT:aGr M is Y k=false->∀j,j<k+1->aGr M is Y j=false:=fun h6 j hj=>by
  rcases bF j k with h7 | h7
  ·exact bB j h7
  ·rw [show j=k by omega];exact h6
 have aYr:aGr M is Y k=true->false=decide (PrC M is (wyL M is Y) (stQ M is Y) (dW (wyL M is Y) (wyL M is Y)) Y):=fun h6=>(fh fun e=>by have:=e.2.2.2.2.2.2 k sF;rw [h6] at this;cases this).symm;refine ⟨⟨by omega,h5⟩,⟨by omega,by omega⟩,?_⟩;unfold aUS;rw [show is.getD ((k:Nat):Int).toNat false=ub is k from rfl,show M.getD ((k:Nat):Int).toNat []=M.getD k [] from rfl];have rl:(wyL M is Y).length=(M.getD k []).length:=by rw [aVh];exact (m3 k sF).symm
 have dr:lM (wyL M is Y) (M.getD k []):=aSg g.sw (g.sM k) g.lw (by omega);have pl:∀t,(wyL M is Y).length=(ptL M is Y t).length:=fun t=>by rw [aVh,aQP]
 have dp:∀t,lM (wyL M is Y) (ptL M is Y t):=fun t=>aSg g.sw (g.sp t) g.lw (by omega)
 cases e:ub is k with
 | true=>refine ⟨⟨rl,dr⟩,⟨pl true,dp true⟩,⟨hr k,hp true⟩,aH (fun h6=>aYr (by unfold aGr;rw [aV e];exact j3 (aUR.1 h6))) fun h6=>⟨⟨by omega,by omega⟩,?_⟩⟩;rw [show (!true)=false from rfl,qZ];exact ⟨by unfold ax;omega,k+1,⟨rfl,rfl,rfl,rfl,rfl,rfl,rfl⟩,⟨sF,nT (by unfold aGr;rw [aV e];exact fh fun h7=>h6 (aUR.2 h7))⟩,by omega⟩
 | false=>
  refine ⟨⟨by omega,by omega⟩,?_⟩;rw [show (!false)=true from rfl,ia];have en:¬ub is k=true:=by rw [e];decide
  exact ⟨⟨rl,dr⟩,⟨pl false,dp false⟩,⟨hr k,hp false⟩,aH (fun h6=>aYr (by unfold aGr;rw [aI en];exact j3 (aWO.1 h6))) fun h6=>⟨by unfold ax;omega,k+1,⟨rfl,rfl,rfl,rfl,rfl,rfl,rfl⟩,⟨sF,nT (by unfold aGr;rw [aI en];exact fh fun h7=>h6 (aWO.2 h7))⟩,by omega⟩⟩
theorem aYs:aqn (cfg []) aYo:=cf aXc bp Tryz.func18 fun a _ _ _ hc hg hf=>by change a3O a=_ at hc;unfold a3O at hc;split at hc <;> cases hc;cases aY (aYp _ _ _ _ _ _) (aYq _ _ _ _ _ _ hg);exact ⟨rfl,by kernel_rfl,_,by assumption⟩
noncomputable def a0h:List az:=aXd::aZe
theorem aZO:bd a0h:=⟨aWL,aXc⟩
noncomputable def a4E:List AV->Option (Option Prop×AV×List Ob)
 | [.k (.list (.list .q)) M,.k (.list .bool) is]=>some (some (chE M is=0->NrG M is),T2 (.k (.list .q) (meY M is)) (.k (.int .i64) (meE M is)),[])
 | _=>none
noncomputable def aZf:az:=⟨27,false,a4E⟩
noncomputable def aZy (M:List (List Rat)) (is:List Bool):bk:=⟨nU,nL,nR,nU⟩
def aXQ (M:List (List Rat)) (is:List Bool):Prop:=bif !decide (chE M is=(0:Int)) then meY M is=[]/\chE M is=meE M is else NrG M is/\NyG M is (akv M is)/\bif !bif decide (chE M is=(0:Int)) then joB M is
 (akv M is) else false then meY M is=[]/\(7:Int)=meE M is else akv M is=meY M is/\(0:Int)=meE M is
theorem aYY (M:List (List Rat)) (is:List Bool):aw a0h [] (aZy M is) Tryz.f27 (T2 (.k (.list .q) (meY M is)) (.k (.int .i64) (meE M is))) [.k (.list (.list .q)) M,.k (.list .bool) is]=aXQ M is:=by kernel_rfl
theorem aYZ (M:List (List Rat)) (is:List Bool) (hg:chE M is=0->NrG M is):aXQ M is:=by
 unfold aXQ;refine dP (fun h=>?_) fun h=>?_
 ·have e:meE M is=chE M is:=aI h;exact ⟨aI (by rw [e];exact h),e.symm⟩
 ·have g:=hg h;refine ⟨g,g.ny,?_⟩;rw [j3 h,ia]
  cases hj:joB M is (akv M is) with
  | true=>
   have e:meE M is=0:=by unfold meE;rw [aV h,aV hj]
   rw [show (!true)=false from rfl,qZ];exact ⟨(aV e).symm,e.symm⟩
  | false=>
   have e:meE M is=7:=by unfold meE;rw [aV h,aI (by rw [hj];decide)]
   rw [show (!false)=true from rfl,ia];exact ⟨aI (by rw [e];decide),e.symm⟩
theorem aY0:aqn (cfg []) aZf:=cf aZO bp Tryz.func27 fun a _ _ _ hc hg hf=>by change a4E a=_ at hc;unfold a4E at hc;split at hc <;> cases hc;cases aY (aYY _ _) (aYZ _ _ hg);exact ⟨rfl,by kernel_rfl,_,by assumption⟩
noncomputable def aYu:List az:=xQ::ajK::Kv::Kz::aoo::ajN::aoL::aot::NB::WW::[]
theorem aWr:bd aYu:=⟨mV,ajv,Ai,Ak,aof,ajy,aoA,aoj,KM,Q7,trivial⟩
def a4F:List AV->Option (Option Prop×AV×List Ob)
 | [.k (.int .i64) ((n:Nat):Int),.dv]=>some (some (n<=aB),.own 0 0 3,[.arr 34 .rq (aA n fun _=>0)])
 | _=>none
def aZh:az:=⟨55,false,a4F⟩
def aZz (n:Nat):bk:=⟨fun key_=>match key_ with | 9=>14 | _=>0,fun key_=>match key_ with
 | 3=>some (⟨Nat,fun i=>[(0,.k (.int .i64) ((n:Nat):Int)),(1,.dv),(5,.own 9 0 3),(6,.k (.int .i64) ((i:Nat):Int))],
 fun i=>[(9,.arr 34 .oq (aA n fun t=>if t<i then some 0 else none))],fun _ i=>i<=n,fun i=>n-i⟩)
 | 7=>some (⟨Nat,fun i=>[(1,.k (.list (.int .i64)) ([]:List Int)),(5,.own 9 0 3),(7,.k (.int .i64) ((i:Nat):Int))],
 fun i=>[(9,.arr 34 .oq (aA n fun t=>if t<n then some 0 else none))],fun _ i=>i<=0,fun i=>0-i⟩) | _=>none,nR,nU⟩
def aXT (n:Nat):Prop:=((0:Int)<=(↑n:Int)/\(↑n:Int)<=(↑n:Int)/\(↑n:Int)<=(1099511627776:Int))/\∃(x0:Nat),(((↑n:Int)=(↑n:Int)/\(0:Int)=(↑x0:Int)) /\
 List.replicate (↑n:Int).toNat none=aA n fun (t:Nat)=>if t<x0 then some (0:Rat) else none)/\x0<=n/\∀(x:Nat),x<=n->bif decide ((↑x:Int)<(↑n :
 Int)) then ax (0:Int)/\((0:Int)<=(↑x:Int)/\(↑x:Int)<(↑(aA n fun (t:Nat)=>if t<x then some (0:Rat) else none).length:Int))/\(↑x:Int).toNat <
 (aA n fun (t:Nat)=>if t<x then some (0:Rat) else none).length/\ax ((↑x:Int)+(1:Int))/\∃(x':Nat),(((↑n:Int)=(↑n:Int)/\(↑x:Int)+(1:Int)
 = (↑x':Int))/\(aA n fun (t:Nat)=>if t<x then some (0:Rat) else none).set (↑x:Int).toNat (some (↑(0:Int):Rat))=aA n fun (t:Nat)=>if t<x' then
 some (0:Rat) else none)/\x'<=n/\n-x'<n-x else ∃(x0:Nat),((([]:List Int)=[]/\(0:Int)=(↑x0:Int))/\(aA n fun (t:Nat)=>if t<x then some (0 :
 Rat) else none)=aA n fun (t:Nat)=>if t<n then some (0:Rat) else none)/\x0<=(0:Nat)/\∀(x:Nat),x<=(0:Nat)->([]:List Int).length <=
 (9223372036854775807:Nat)->(aA n fun (t:Nat)=>if t<n then some (0:Rat) else none)=List.map some (aA n fun (x:Nat)=>(0:Rat))
theorem aY1 (n:Nat):awp (cfg aYu []) (aZz n) Tryz.f55.ntmps (Tryz.f55.body.getD .skip) (jj Tryz.f55.results.toList (.own 0 0 3) 9 (.arr 34 .rq (aA n fun _=>0))) ⟨aBd 0 [.k (.int .i64) ((n:Nat):Int),.dv],[]⟩=aXT n:=by kernel_rfl
theorem aY2 (n:Nat) (hg:n<=aB):aXT n:=by
 unfold aB at hg;unfold aXT;refine ⟨⟨by omega,by omega,by omega⟩,0,⟨⟨rfl,rfl⟩,(iO _ _).trans (bE fun t _=>(aI (by omega)).symm)⟩,fi _,fun i hi=>aH (fun h=>?_) fun h=>?_⟩
 ·rw [mX,show ((i:Nat):Int).toNat=i from rfl,mY (by omega)];refine ⟨by unfold ax;omega,⟨by omega,h⟩,by omega,by unfold ax;omega,i+1,⟨⟨rfl,rfl⟩,bE fun t _=>?_⟩,by omega,by omega⟩;rcases x7 t i with h5 | h5 | h5
  ·rw [aI (by omega),aV h5,aV (by omega)]
  ·rw [aV h5,aV (by omega)];rfl
  ·rw [aI (by omega),aI (by omega),aI (by omega)]
 ·refine ⟨0,⟨⟨rfl,rfl⟩,by rw [show i=n by omega]⟩,cM _,fun _ _ _=>?_⟩;rw [sv];exact bE fun t ht=>aV ht
theorem aY3:aqn (cfg []) aZh:=oY aWr bp Tryz.func55 (by kernel_rfl) (by kernel_rfl) rfl fun args g r hn hc hg hf=>by
 replace hc:a4F args=some (g,r,hn):=hc;unfold a4F at hc;split at hc
 ·cases hc;have hv:=aY2 _ hg
  cases aY (aY1 _) hv;exact ⟨by kernel_rfl,_,9,_,rfl,rfl,rfl,by assumption⟩
 ·cases hc
def a1K:List AV->Option (Option Prop×AV×List Ob)
 | [.k (.list .rq) b,.k (.list .bool) is]=>some (some (b.length<=24/\SL GB b),.k .bool (decide (WtP b is)),[])
 | _=>none
def aXg:az:=⟨48,false,a1K⟩
def aXU (b:List Rat) (is:List Bool):bk:=⟨fun key_=>match key_ with | 10=>5 | 11=>5 | 12=>7 | _=>0,fun key_=>match key_ with
 | 5=>some (⟨Nat,fun i=>[(0,.k (.list .rq) b),(1,.k (.list .bool) is),(5,.pt 5 0 3 0 0),(6,.pt 6 0 3 0 0),(7,.k (.int .i64) ((i:Nat):Int))],
 fun i=>[(5,.box 34 (.k .rq (sdS i (ub is) true (cw b)))),(6,.box 34 (.k .rq (sdS i (ub is) false (cw b))))],
 fun _ i=>i<=b.length/\b.length=is.length/\∀j,j<i->0<=cw b j,fun i=>b.length-i⟩) | _=>none,nR,nU⟩
def aU8 (b:List Rat) (is:List Bool):Prop:=b.length<=aB->is.length<=aB->bif !decide ((↑b.length:Int)=(↑is.length:Int)) then false=decide (WtP b is) else ax (0:Int)/\ax (0:Int)/\∃(x0 :
 Nat),((b=b/\is=is/\(0:Int)=(↑x0:Int))/\(↑(0:Int):Rat)=sdS x0 (ub is) true (cw b)/\(↑(0:Int):Rat)=sdS x0 (ub is) false (cw b))/\(x0<=b.length
 /\ b.length=is.length/\∀(j:Nat),j<x0->(0:Rat)<=cw b j)/\∀(x:Nat),(x<=b.length/\b.length=is.length/\∀(j:Nat),j<x->(0:Rat)<=cw b j) ->
 b.length<=aB->bif decide ((↑x:Int)<(↑b.length:Int)) then ((0:Int)<=(↑x:Int)/\(↑x:Int)<(↑b.length:Int))/\bif decide ((b.getD (↑x:Int).toNat (0 :
 Rat)).num.sign<(0:Int)) then false=decide (WtP b is) else ((0:Int)<=(↑x:Int)/\(↑x:Int)<(↑is.length:Int))/\bif is.getD (↑x:Int).toNat false then ((0 :
 Int)<=(↑x:Int)/\(↑x:Int)<(↑b.length:Int))/\(Sq BQ (sdS x (ub is) true (cw b))/\Sq BQ (b.getD (↑x:Int).toNat (0:Rat)))/\ax ((↑x:Int)+(1:Int))/\∃
 (x':Nat),((b=b/\is=is/\(↑x:Int)+(1:Int)=(↑x':Int))/\sdS x (ub is) true (cw b)+b.getD (↑x:Int).toNat (0:Rat)=sdS x' (ub is) true (cw b)/\sdS x
 (ub is) false (cw b)=sdS x' (ub is) false (cw b))/\(x'<=b.length/\b.length=is.length/\∀(j:Nat),j<x'->(0:Rat)<=cw b j)/\b.length-x'<b.length-x
 else ((0:Int)<=(↑x:Int)/\(↑x:Int)<(↑b.length:Int))/\(Sq BQ (sdS x (ub is) false (cw b))/\Sq BQ (b.getD (↑x:Int).toNat (0:Rat)))/\ax ((↑x:Int)+(1
 : Int))/\∃(x':Nat),((b=b/\is=is/\(↑x:Int)+(1:Int)=(↑x':Int))/\sdS x (ub is) true (cw b)=sdS x' (ub is) true (cw b)/\sdS x (ub is) false (cw b) +
 b.getD (↑x:Int).toNat (0:Rat)=sdS x' (ub is) false (cw b))/\(x'<=b.length/\b.length=is.length/\∀(j:Nat),j<x'->(0:Rat)<=cw b j)/\b.length-x' <
 b.length-x else ax (1:Int)/\(Sq BQ (sdS x (ub is) true (cw b))/\Sq BQ (↑(1:Int):Rat))/\bif decide (fS (sdS x (ub is) true (cw b)) (↑(1:Int):Rat)=(0 :
 Int)) then ax (1:Int)/\(Sq BQ (sdS x (ub is) false (cw b))/\Sq BQ (↑(1:Int):Rat))/\decide (fS (sdS x (ub is) false (cw b)) (↑(1:Int):Rat)=(0:Int)) =
 decide (WtP b is) else false=decide (WtP b is)
theorem aXD (b:List Rat) (is:List Bool):aw aYu [] (aXU b is) Tryz.f48 (.k .bool (decide (WtP b is))) [.k (.list .rq) b,.k (.list .bool) is]=aU8 b is:=by kernel_rfl
theorem aXF (b:List Rat) (is:List Bool) (hg:b.length<=24/\SL GB b) (hf:cJ [.k (.list .rq) b,.k (.list .bool) is]):aU8 b is:=by
 obtain ⟨h24,hb⟩:=hg;have hS:∀i t,i<=b.length->Sq BQ (sdS i (ub is) t (cw b)):=fun i t hi=>(Sq.apV (k:=GB) fun j _=>by
  split
  ·exact hb j
  ·exact Sq.zero _ (by unfold GB;omega)).le (by have:=gU (GB+1) (show i<=24 by omega);unfold GB BQ at *;omega)
 have hB:∀i,Sq BQ (b.getD i 0):=fun i=>(hb i).le (by unfold GB BQ;omega);have h1q:Sq BQ ((1:Int):Rat):=Sq.one (by unfold BQ;omega);unfold aU8;refine fun _ _=>dP (fun h=>(fh fun e=>h (by rw [e.1])).symm) fun h=>⟨by unfold ax;omega,by unfold ax;omega,0,⟨⟨rfl,rfl,rfl⟩,rfl,rfl⟩,⟨fi _,by omega,fun j hj=>absurd hj (iQ j)⟩,fun i ⟨hi,hlen,bB⟩ _=>aH (fun h1=>?_) fun h1=>?_⟩
 ·have hi':i<b.length:=by omega
  refine ⟨⟨by omega,h1⟩,aH (fun h2=>(fh fun e=>absurd (C1.1 h2) (Mo.2 (GW.2 (e.2.1 i hi')))).symm) fun h2=>⟨⟨by omega,by omega⟩,?_⟩⟩;have hp:0<=cw b i:=GW.1 (Mo.1 fun h3=>h2 (C1.2 h3));have aW7:∀j,j<i+1->0<=cw b j:=fun j hj=>by
   rcases bF j i with h4 | h4
   ·exact bB j h4
   ·rw [show j=i by omega];exact hp
  change bif ub is i then _ else _
  cases e:ub is i with
  | true=>exact ⟨⟨by omega,h1⟩,⟨hS i true hi,hB i⟩,by unfold ax;omega,i+1,⟨⟨rfl,rfl,rfl⟩,aUn e,aVg (by rw [e];decide)⟩,⟨hi',hlen,aW7⟩,by omega⟩
  | false=>exact ⟨⟨by omega,h1⟩,⟨hS i false hi,hB i⟩,by unfold ax;omega,i+1,⟨⟨rfl,rfl,rfl⟩,aVg (by rw [e];decide),aUn e⟩,⟨hi',hlen,aW7⟩,by omega⟩
 ·have e:i=b.length:=by omega
  subst e;refine ⟨by unfold ax;omega,⟨hS _ true (cM _),h1q⟩,aH (fun h2=>⟨by unfold ax;omega,⟨hS _ false (cM _),h1q⟩,?_⟩) fun h2=>(fh fun e=>h2 (gz.2 e.2.2.1)).symm⟩;exact yv.2 ⟨fun h3=>⟨hlen,bB,gz.1 h2,gz.1 h3⟩,fun e=>gz.2 e.2.2.2⟩
theorem aXG:aqn (cfg []) aXg:=cf aWr bp Tryz.func48 fun a _ _ _ hc hg hf=>by change a1K a=_ at hc;unfold a1K at hc;split at hc <;> cases hc;cases aY (aXD _ _) (aXF _ _ hg hf);exact ⟨rfl,by kernel_rfl,_,by assumption⟩
noncomputable def a0j:List az:=aZh::aYu
theorem aZP:bd a0j:=⟨aY3,aWr⟩
def a3P:List AV->Option (Option Prop×AV×List Ob)
 | [.k (.list .rq) b,.k (.list (.list .rq)) M,.k (.list .bool) is,.k .bool t]=>some (some (MgG M is b),.k (.list .rq) (ptL M is b t),[])
 | _=>none
def aYw:az:=⟨19,false,a3P⟩
def aY4 (b:List Rat) (M:List (List Rat)) (is:List Bool) (t:Bool):bk:=⟨fun key_=>match key_ with | 6=>10 | _=>0,fun key_=>match key_ with
 | 3=>some (⟨Nat,fun i=>[(0,.k (.list .rq) b),(1,.k (.list (.list .rq)) M),(2,.k (.list .bool) is),(3,.k .bool t),(9,.k (.list .rq) (aA (al M) (ptS M is b t i))),(10,.k (.int .i64) ((i:Nat):Int))],
 fun _=>[],fun _ i=>i<=M.length,fun i=>M.length-i⟩) | _=>none,nR,nU⟩
def aXi (b:List Rat) (M:List (List Rat)) (is:List Bool) (t:Bool):Prop:=((0:Int)<=(0:Int)/\(0:Int)<(↑M.length:Int))/\((al M)<=aB->(al M)<=aB/\∃(x0:Nat),(b=b/\M=M/\is=is/\t=t/\(aA (al M) fun (x :
 Nat)=>(0:Rat))=aA (al M) (ptS M is b t x0)/\(0:Int)=(↑x0:Int))/\x0<=M.length/\∀(x:Nat),let u2:=M.getD (↑x:Int).toNat [];
 let u1:=aA (al M) (ptS M is b t x);x<=M.length->M.length<=aB->bif decide ((↑x:Int)<(↑M.length:Int)) then ((0:Int)<=(↑x:Int)/\(↑x:Int) <
 (↑is.length:Int))/\bif is.getD (↑x:Int).toNat false == t then ((0:Int)<=(↑x:Int)/\(↑x:Int)<(↑M.length:Int))/\((0:Int)<=(↑x:Int)/\(↑x:Int) <
 (↑b.length:Int))/\(u1.length<=u2.length/\SL BQ u1/\SL BQ u2/\Sq BQ (-b.getD (↑x:Int).toNat (0:Rat))/\∀(j:Nat),Sq BQ (-b.getD (↑x:Int).toNat (0:Rat) *
 u2.getD j (0:Rat)))/\ax ((↑x:Int)+(1:Int))/\∃(x':Nat),(b=b/\M=M/\is=is/\t=t/\(aA u1.length fun (j:Nat)=>u1.getD j (0:Rat) - -b.getD (↑x
 : Int).toNat (0:Rat)*u2.getD j (0:Rat))=aA (al M) (ptS M is b t x')/\(↑x:Int)+(1:Int)=(↑x':Int))/\x'<=M.length/\M.length-x'<M.length-x
 else ax ((↑x:Int)+(1:Int))/\∃(x':Nat),(b=b/\M=M/\is=is/\t=t/\aA (al M) (ptS M is b t x)=aA (al M) (ptS M is b t x')/\(↑x:Int)+(1 :
 Int)=(↑x':Int))/\x'<=M.length/\M.length-x'<M.length-x else aA (al M) (ptS M is b t x)=ptL M is b t)
theorem aYx (b:List Rat) (M:List (List Rat)) (is:List Bool) (t:Bool):aw a0j [] (aY4 b M is t) Tryz.f19 (.k (.list .rq) (ptL M is b t)) [.k (.list .rq) b,.k (.list (.list .rq)) M,.k (.list .bool) is,.k .bool t]=aXi b M is t:=by kernel_rfl
theorem aYy (b:List Rat) (M:List (List Rat)) (is:List Bool) (t:Bool) (hg:MgG M is b) (hf:cJ [.k (.list .rq) b,.k (.list (.list .rq)) M,.k (.list .bool) is,.k .bool t]):aXi b M is t:=by
 obtain ⟨m1,m2,m3⟩:=ba hg.right;have h24:=hg.n24;have h3:=hg.w3;have hl:=hg.len;have kh:=hg.lb;unfold aXi;dsimp only;refine ⟨⟨by omega,by omega⟩,fun hL=>⟨hL,0,⟨rfl,rfl,rfl,rfl,rfl,rfl⟩,fi _,fun i hi _=>aH (fun h=>?_) fun h=>?_⟩⟩
 ·have hi':i<M.length:=by omega
  refine ⟨⟨by omega,by omega⟩,?_⟩;rw [show M.getD ((i:Nat):Int).toNat []=M.getD i [] from rfl,show b.getD ((i:Nat):Int).toNat 0=cw b i from rfl,mX];change bif (ub is i == t) then _ else _
  cases e:(ub is i == t) with
  | true=>have e':=Ly e;refine ⟨⟨by omega,h⟩,⟨by omega,by omega⟩,⟨by rw [m3 i hi'];exact cM _,SL.mk (fun j _=>(hg.pt hi t j).le (by unfold BQ;omega)) (by unfold BQ;omega),(hg.sM i).le (by unfold BQ;omega),(hg.sb i).neg.le (by unfold GB BQ;omega),fun j=>((hg.sb i).neg.mul (hg.sM i j)).le (by unfold GB BQ;omega)⟩,by unfold ax;omega,i+1,⟨rfl,rfl,rfl,rfl,bE fun j hj=>?_,rfl⟩,by omega,by omega⟩;rw [fW hj,aPh e'];show ptS M is b t i j - -cw b i*el M i j=_;grind
  | false=>exact ⟨by unfold ax;omega,i+1,⟨rfl,rfl,rfl,rfl,bE fun j _=>(aSf (fun e'=>by rw [e',beq_self_eq_true] at e;cases e) j).symm,rfl⟩,by omega,by omega⟩
 ·rw [show i=M.length by omega];rfl
theorem aYz:aqn (cfg []) aYw:=cf aZP bp Tryz.func19 fun a _ _ _ hc hg hf=>by change a3P a=_ at hc;unfold a3P at hc;split at hc <;> cases hc;cases aY (aYx _ _ _ _) (aYy _ _ _ _ hg hf);exact ⟨rfl,by kernel_rfl,_,by assumption⟩
noncomputable def aZQ:List az:=aXg::aYw::aYu
theorem aYA:bd aZQ:=⟨aXG,aYz,aWr⟩
def a3Q:List AV->Option (Option Prop×AV×List Ob)
 | [.k (.list .rq) b,.k (.list (.list .rq)) M,.k (.list .bool) is]=>some (some ((b.length<=24/\SL GB b)/\(WtP b is->MgG M is b)),.k .bool (joB M is b),[])
 | _=>none
def aYB:az:=⟨17,false,a3Q⟩
def aY5 (b:List Rat) (M:List (List Rat)) (is:List Bool):bk:=⟨nU,nL,nR,nU⟩
def aXp (b:List Rat) (M:List (List Rat)) (is:List Bool):Prop:=(b.length<=(24:Nat)/\SL GB b)/\bif decide (WtP b is) then MgG M is b/\MgG M is b/\(SL BQ (ptL M is b true)/\SL BQ (ptL M is b false))/\decide (ptL M is b true =
 ptL M is b false)=joB M is b else false=joB M is b
theorem aYC (b:List Rat) (M:List (List Rat)) (is:List Bool):aw aZQ [] (aY5 b M is) Tryz.f17 (.k .bool (joB M is b)) [.k (.list .rq) b,.k (.list (.list .rq)) M,.k (.list .bool) is]=aXp b M is:=by kernel_rfl
theorem aYD (b:List Rat) (M:List (List Rat)) (is:List Bool) (hg:(b.length<=24/\SL GB b)/\(WtP b is->MgG M is b)):aXp b M is:=by obtain ⟨h1,h2⟩:=hg;unfold aXp joB;refine ⟨h1,aH (fun h=>?_) fun h=>by rw [fh h,qZ]⟩;have g:=h2 h;rw [j3 h,ia];exact ⟨g,g,⟨(g.sp true).le (by unfold BQ;omega),(g.sp false).le (by unfold BQ;omega)⟩,rfl⟩
theorem aYE:aqn (cfg []) aYB:=cf aYA bp Tryz.func17 fun a _ _ _ hc hg hf=>by change a3Q a=_ at hc;unfold a3Q at hc;split at hc <;> cases hc;cases aY (aYC _ _ _) (aYD _ _ _ hg);exact ⟨rfl,by kernel_rfl,_,by assumption⟩
def a3R:List AV->Option (Option Prop×AV×List Ob)
 | [.k (.list .rq) W,.k .rq B,.k .rq D,.k (.list .rq) Y,.k (.list (.list .rq)) M,.k (.list .bool) is]=>some (some ((Y.length<=24/\SL GB Y)/\(WtP Y is->MgG M is Y)/\SL BQ W/\Sq BQ B/\Sq BQ D),.k .bool (decide (PrP M is W B D Y)),[])
 | _=>none
def aYF:az:=⟨25,false,a3R⟩
def aY6 (W:List Rat) (B D:Rat) (Y:List Rat) (M:List (List Rat)) (is:List Bool):bk:=⟨fun key_=>match key_ with | 4=>29 | 10=>23 | _=>0,fun key_=>match key_ with
 | 7=>some (⟨Nat,fun i=>[(0,.k (.list .rq) W),(4,.k (.list (.list .rq)) M),(5,.k (.list .bool) is),(13,.k (.list .rq) (ptL M is Y true)),(14,.k (.list .rq) (ptL M is Y false)),(15,.k (.int .i64) ((i:Nat):Int))],
 fun _=>[],fun _ i=>i<=M.length/\∀j,j<i->aGr M is Y j=false,fun i=>M.length-i⟩) | _=>none,nR,nU⟩
def aVj (W:List Rat) (B D:Rat) (Y:List Rat) (M:List (List Rat)) (is:List Bool) (x:Nat):Prop:=((0:Int)<=(↑x:Int)/\(↑x:Int)<(↑is.length:Int))/\bif !is.getD (↑x:Int).toNat false then (W.length<=(ptL M is Y false).length/\lM W (ptL M is Y false)) /\
 (Sq BQ (dW W (M.getD (↑x:Int).toNat []))/\Sq BQ (dW W (ptL M is Y false)))/\bif decide ((0:Int)<fS (dW W (M.getD (↑x:Int).toNat [])) (dW W (ptL M is Y
 false))) then false=decide (PrP M is W B D Y) else ax ((↑x:Int)+(1:Int))/\∃(x':Nat),(W=W/\M=M/\is=is/\ptL M is Y true=ptL M is Y true/\ptL M is
 Y false=ptL M is Y false/\(↑x:Int)+(1:Int)=(↑x':Int))/\(x'<=M.length/\∀(j:Nat),j<x'->aGr M is Y j=false)/\M.length-x'<M.length-x else
 ax ((↑x:Int)+(1:Int))/\∃(x':Nat),(W=W/\M=M/\is=is/\ptL M is Y true=ptL M is Y true/\ptL M is Y false=ptL M is Y false/\(↑x:Int)+(1:Int)
 = (↑x':Int))/\(x'<=M.length/\∀(j:Nat),j<x'->aGr M is Y j=false)/\M.length-x'<M.length-x
def aXq (W:List Rat) (B D:Rat) (Y:List Rat) (M:List (List Rat)) (is:List Bool):Prop:=
 let t1:=ptL M is Y true;
 let t2:=ptL M is Y false;
 let t3:=PrP M is W B D Y;
 (Y.length<=(24:Nat)/\SL GB Y)/\bif !decide (WtP Y is) then false=decide t3 else W.length<=aB->((0:Int)<=(0:Int)/\(0:Int)<(↑M.length:Int))/\((M.getD
 (Int.toNat (0:Int)) []).length<=aB->bif !decide ((↑W.length:Int)=(↑(M.getD (Int.toNat (0:Int)) []).length:Int)) then false=decide t3 else bif decide
 (D.num.sign<=(0:Int)) then false=decide t3 else MgG M is Y/\MgG M is Y/\ax (1:Int)/\(t1.length<=t2.length/\SL BQ t1/\SL BQ t2/\Sq BQ (↑(1:Int):Rat) /\
 ∀(j:Nat),Sq BQ ((↑(1:Int):Rat)*t2.getD j (0:Rat)))/\(SL BQ W/\SL BQ (aA t1.length fun (j:Nat)=>t1.getD j (0:Rat)-(↑(1:Int):Rat)*t2.getD j (0
 : Rat)))/\bif !decide (W=aA t1.length fun (j:Nat)=>t1.getD j (0:Rat)-(↑(1:Int):Rat)*t2.getD j (0:Rat)) then false=decide t3 else (W.length <=
 W.length/\lM W W)/\(Sq BQ D/\Sq BQ (dW W W))/\bif !decide (fS D (dW W W)=(0:Int)) then false=decide t3 else (t2.length<=t2.length/\lM t2 t2) /\
 (t1.length<=t1.length/\lM t1 t1)/\(Sq BQ (dW t2 t2)/\Sq BQ (dW t1 t1))/\ax (2:Int)/\(Sq BQ (dW t2 t2-dW t1 t1)/\Sq BQ (↑(2:Int):Rat)/\(↑(2 :
 Int):Rat)≠(0:Rat))/\(Sq BQ B/\Sq BQ ((dW t2 t2-dW t1 t1)/(↑(2:Int):Rat)))/\bif !decide (fS B ((dW t2 t2-dW t1 t1)/(↑(2:Int):Rat))=(0
 : Int)) then false=decide t3 else ∃(x0:Nat),(W=W/\M=M/\is=is/\ptL M is Y true=ptL M is Y true/\ptL M is Y false=ptL M is Y false/\(0:Int)=(↑x0 :
 Int))/\(x0<=M.length/\∀(j:Nat),j<x0->aGr M is Y j=false)/\∀(x:Nat),let u1:=M.getD (↑x:Int).toNat [];(x<=M.length/\∀(j:Nat),j<x->aGr M is
 Y j=false)->M.length<=aB->bif decide ((↑x:Int)<(↑M.length:Int)) then ((0:Int)<=(↑x:Int)/\(↑x:Int)<(↑M.length:Int))/\(W.length<=u1.length/\lM
 W u1)/\((0:Int)<=(↑x:Int)/\(↑x:Int)<(↑is.length:Int))/\bif is.getD (↑x:Int).toNat false then (W.length<=t1.length/\lM W t1)/\(Sq BQ (dW W u1)/\Sq
 BQ (dW W t1))/\bif decide (fS (dW W u1) (dW W t1)<(0:Int)) then false=decide t3 else aVj W B D Y M is x else aVj W B D Y M is x else true =
 decide t3)
theorem aYG (W:List Rat) (B D:Rat) (Y:List Rat) (M:List (List Rat)) (is:List Bool):aw aZQ [] (aY6 W B D Y M is) Tryz.f25 (.k .bool (decide (PrP M is W B D Y))) [.k (.list .rq) W,.k .rq B,.k .rq D,.k (.list .rq) Y,.k (.list (.list .rq)) M,.k (.list .bool) is]=aXq W B D Y M is:=by kernel_rfl
theorem aYH (W:List Rat) (B D:Rat) (Y:List Rat) (M:List (List Rat)) (is:List Bool) (hg:(Y.length<=24/\SL GB Y)/\(WtP Y is->MgG M is Y)/\SL BQ W/\Sq BQ B/\Sq BQ D):aXq W B D Y M is:=by
 obtain ⟨hy,hm,sW,sB,sD⟩:=hg;unfold aXq;dsimp only;refine ⟨hy,dP (fun h=>(fh fun e=>h e.1).symm) fun h _=>?_⟩;have g:=hm h;obtain ⟨m1,m2,m3⟩:=ba g.right;have hl:=g.len;have h24:=g.n24;have hd:∀t,Sq 700000000 (dW (ptL M is Y t) (ptL M is Y t)):=fun t=>aVi (g.sp t) (g.sp t) (g.lp t) (by omega);have hdB:∀t,Sq BQ (dW (ptL M is Y t) (ptL M is Y t)):=fun t=>(hd t).le (by unfold BQ;omega);have hw:Sq 700000000 (dW (wyL M is Y) (wyL M is Y)):=aVi g.sw g.sw g.lw (by omega);have h22:Sq 64 ((2:Int):Rat):=Sq.atH;have hs:Sq BQ (stQ M is Y):=by unfold stQ;exact (((hd false).sub (hd true)).div (k:=64) Sq.atH (by decide)).le (by unfold BQ;omega)
 have hp:∀t,Sq BQ (dW (wyL M is Y) (ptL M is Y t)):=fun t=>(aVi g.sw (g.sp t) g.lw (by omega)).le (by unfold BQ;omega);have hr:∀i,Sq BQ (dW (wyL M is Y) (M.getD i [])):=fun i=>(aVi g.sw (g.sM i) g.lw (by omega)).le (by unfold BQ;omega);have h1q:Sq BQ ((1:Int):Rat):=Sq.one (by unfold BQ;omega);have eW:(aA (ptL M is Y true).length fun j=>(ptL M is Y true).getD j 0-((1:Int):Rat)*(ptL M is Y false).getD j 0)=wyL M is Y:=by rw [aQP];exact bE fun j hj=>by rw [aUo true hj,aUo false hj,show ((1:Int):Rat)=1 from rfl,Hu]
 rw [eW];refine ⟨⟨by omega,by omega⟩,fun _=>dP (fun h1=>(fh fun e=>h1 (by rw [e.2.1,aVh];rfl)).symm) fun h1=>aH (fun h4=>(fh fun e=>?_).symm) fun h4=>?_⟩
 ·have:=aUp.2 e.2.2.2.2.1;omega
 have hD:0<D:=aUp.1 (by omega);refine ⟨g,g,by unfold ax;omega,⟨by rw [aQP,aQP];exact cM _,(g.sp true).le (by unfold BQ;omega),(g.sp false).le (by unfold BQ;omega),h1q,fun j=>by rw [show ((1:Int):Rat)=1 from rfl,Hu];exact (g.sp false j).le (by unfold BQ;omega)⟩,⟨sW,g.sw.le (by unfold BQ;omega)⟩,dP (fun h5=>(fh fun e=>h5 e.2.1).symm) fun h5=>?_⟩;subst h5;refine ⟨⟨cM _,aSg g.sw g.sw g.lw (by omega)⟩,⟨sD,hw.le (by unfold BQ;omega)⟩,dP (fun h6=>(fh fun e=>h6 (gz.2 e.2.2.2.1)).symm) fun h6=>?_⟩;have h6:=gz.1 h6;refine ⟨⟨cM _,aSg (g.sp false) (g.sp false) (g.lp false) (by omega)⟩,⟨cM _,aSg (g.sp true) (g.sp true) (g.lp true) (by omega)⟩,⟨hdB false,hdB true⟩,by unfold ax;omega,⟨((hd false).sub (hd true)).le (by unfold BQ;omega),h22.le (by unfold BQ;omega),by decide⟩,⟨sB,hs⟩,dP (fun h7=>(fh fun e=>h7 (gz.2 e.2.2.1)).symm) fun h7=>?_⟩;have h7:B=stQ M is Y:=gz.1 h7;refine ⟨0,⟨rfl,rfl,rfl,rfl,rfl,rfl⟩,⟨fi _,fun j hj=>absurd hj (iQ j)⟩,fun k ⟨hk,bB⟩ _=>aH (fun h5=>?_) fun h5=>(j3 ⟨h,rfl,h7,h6,hD,fun j hj=>bB j (by omega)⟩).symm⟩;have sF:k<M.length:=by omega
 have nT:aGr M is Y k=false->∀j,j<k+1->aGr M is Y j=false:=fun h6 j hj=>by
  rcases bF j k with h7 | h7
  ·exact bB j h7
  ·rw [show j=k by omega];exact h6
 have aYr:aGr M is Y k=true->false=decide (PrP M is (wyL M is Y) B D Y):=fun h6=>(fh fun e=>by have:=e.2.2.2.2.2 k sF;rw [h6] at this;cases this).symm;rw [show is.getD ((k:Nat):Int).toNat false=ub is k from rfl,show M.getD ((k:Nat):Int).toNat []=M.getD k [] from rfl];have rl:(wyL M is Y).length<=(M.getD k []).length:=by rw [aVh,m3 k sF];exact cM _
 have dr:lM (wyL M is Y) (M.getD k []):=aSg g.sw (g.sM k) g.lw (by omega);have pl:∀t,(wyL M is Y).length<=(ptL M is Y t).length:=fun t=>by rw [aVh,aQP];exact cM _
 have dp:∀t,lM (wyL M is Y) (ptL M is Y t):=fun t=>aSg g.sw (g.sp t) g.lw (by omega);refine ⟨⟨by omega,h5⟩,⟨rl,dr⟩,⟨by omega,by omega⟩,?_⟩;unfold aVj;rw [show is.getD ((k:Nat):Int).toNat false=ub is k from rfl,show M.getD ((k:Nat):Int).toNat []=M.getD k [] from rfl]
 cases e:ub is k with
 | true=>rw [ia];refine ⟨⟨pl true,dp true⟩,⟨hr k,hp true⟩,aH (fun h6=>aYr (by unfold aGr;rw [aV e];exact j3 (aUR.1 h6))) fun h6=>⟨⟨by omega,by omega⟩,?_⟩⟩;rw [show (!true)=false from rfl,qZ];exact ⟨by unfold ax;omega,k+1,⟨rfl,rfl,rfl,rfl,rfl,rfl⟩,⟨sF,nT (by unfold aGr;rw [aV e];exact fh fun h7=>h6 (aUR.2 h7))⟩,by omega⟩
 | false=>
  rw [qZ];refine ⟨⟨by omega,by omega⟩,?_⟩;rw [show (!false)=true from rfl,ia];have en:¬ub is k=true:=by rw [e];decide
  exact ⟨⟨pl false,dp false⟩,⟨hr k,hp false⟩,aH (fun h6=>aYr (by unfold aGr;rw [aI en];exact j3 (aWO.1 h6))) fun h6=>⟨by unfold ax;omega,k+1,⟨rfl,rfl,rfl,rfl,rfl,rfl⟩,⟨sF,nT (by unfold aGr;rw [aI en];exact fh fun h7=>h6 (aWO.2 h7))⟩,by omega⟩⟩
theorem aYI:aqn (cfg []) aYF:=cf aYA bp Tryz.func25 fun a _ _ _ hc hg hf=>by change a3R a=_ at hc;unfold a3R at hc;split at hc <;> cases hc;cases aY (aYG _ _ _ _ _ _) (aYH _ _ _ _ _ _ hg);exact ⟨rfl,by kernel_rfl,_,by assumption⟩
theorem aVD {M:List (List Rat)} {is:List Bool} (h:chE M is=0):Shp M is/\M.length<=24/\∀t,∃i,i<M.length/\ub is i=t:=by
 unfold chE at h;by_cases h1:Shp M is
 ·rw [aV h1] at h;by_cases h2:24<M.length
  ·rw [aV h2] at h;exact absurd h (by decide)
  ·rw [aI h2] at h;refine ⟨h1,by omega,fun t=>?_⟩;unfold chI at h;by_cases h3:∀i,i<is.length->ub is i=ub is 0
   ·rw [aV h3] at h;exact absurd h (by decide)
   ·obtain ⟨i,hi⟩:=GX.1 h3;obtain ⟨h4,h5⟩:=Classical.not_imp.1 hi;have hl:=h1.2.2.2;by_cases h6:ub is 0=t
    ·exact ⟨0,by omega,h6⟩
    ·refine ⟨i,by omega,?_⟩
     cases h7:ub is i <;> cases h8:ub is 0 <;> cases t <;> simp_all
 ·rw [aI h1] at h;exact absurd h (by decide)
section
variable {M:List (List Rat)} {is:List Bool}
theorem NrG.stop (h:NrG M is):∀i,i<M.length->aGr M is (akv M is) i=false:=by
 have S:=h.start;obtain ⟨_,_,a3⟩:=aSe (muW M.length (al M) (vMg M is) (ub is) (cw (stP is M.length 2))+1) S.lb S.hd (tU _);have e:aZH M.length (al M) (vMg M is) (ub is) (muW M.length (al M) (vMg M is) (ub is) (cw (stP is M.length 2))+1) (stP is M.length 2)=akv M is:=S.en;rw [e] at a3;intro i hi
 cases h1:aGr M is (akv M is) i with
 | false=>rfl
 | true=>exact absurd ((aVL M is (akv M is) i).1 h1) (aRy a3 i hi)
theorem aZR (M:List (List Rat)) (is:List Bool) (b:List Rat):dW (wyL M is b) (wyL M is b)=fMg M.length (al M) (vMg M is) (cw b):=by
 unfold dW;rw [aVh];exact uv fun j hj=>by unfold wyL;rw [fW hj,a06]
theorem a14 (M:List (List Rat)) (is:List Bool) (b:List Rat):0<=dW (wyL M is b) (wyL M is b):=by rw [aZR];exact aNb _ _ _ _
theorem aZS {b:List Rat}:dW (wyL M is b) (wyL M is b)=0↔ptL M is b true=ptL M is b false:=by
 rw [aZR];constructor
 ·intro h;refine bE fun j hj=>?_;have h1:=aNS (d:=dMg M.length (vMg M is) (cw b)) h j hj;rw [<-a06] at h1;grind
 ·intro h;refine acj fun j hj=>?_;have h1:(ptL M is b true).getD j 0=(ptL M is b false).getD j 0:=by rw [h]
  rw [aUo true hj,aUo false hj] at h1;have h2:dMg M.length (vMg M is) (cw b) j=0:=by rw [<-a06,h1];grind
  rw [h2,Av]
theorem NrG.jo (h:NrG M is):joB M is (akv M is)=decide (aOu M is=0):=by unfold joB;rw [j3 h.wt,ia];exact yv.2 aZS.symm
theorem NrG.pr (h:NrG M is) (h0:aOu M is≠0):PrP M is (wyL M is (akv M is)) (stQ M is (akv M is)) (aOu M is) (akv M is):=⟨h.wt,rfl,rfl,rfl,by have h1:0<=aOu M is:=a14 M is (akv M is);grind,h.stop⟩
theorem a15 (h:chE M is≠0):meE M is=chE M is/\meY M is=[]:=by have e:meE M is=chE M is:=aI h;exact ⟨e,aI (by rw [e];exact h)⟩
theorem a0d (h:NrG M is) (h0:chE M is=0) (h1:aOu M is=0):meE M is=0/\meY M is=akv M is:=by
 have e:meE M is=0:=by unfold meE;rw [aV h0,h.jo,aV (j3 h1)]
 exact ⟨e,aV e⟩
theorem aZT (h:NrG M is) (h0:chE M is=0) (h1:aOu M is≠0):meE M is=7/\meY M is=[]:=by
 have e:meE M is=7:=by unfold meE;rw [aV h0,h.jo,aI (by rw [fh h1];decide)]
 exact ⟨e,aI (by rw [e];decide)⟩
end
theorem a16 (n:Int):∃z:Int,z.natAbs<256/\hR n*12=(z:Rat):=by
 have hm:0<=n%41/\n%41<41:=⟨Int.emod_nonneg _ (by omega),Int.emod_lt_of_pos _ (by omega)⟩
 have key:∀d k:Int,(d:Rat)≠0->d*k=12->0<=k->k<=12->∃z:Int,z.natAbs<256/\((n%41-20:Int):Rat)/(d:Rat)*12=(z:Rat):=fun d k h0 e k0 k1=>by
  refine ⟨(n%41-20)*k,?_,?_⟩
  ·rw [yk];have h1:(n%41-20).natAbs<=20:=by omega
   have h2:k.natAbs<=12:=by omega
   have:=yq h1 h2;omega
  ·rw [show (12:Rat)=((12:Int):Rat) from rfl, <- e,Hl,Hl, <- Rat.mul_assoc,Rat.div_mul_cancel h0]
 unfold hR dd;by_cases h3:n.tdiv 41%6=3
 ·rw [aV h3];exact key 2 6 (by decide) (by decide) (by decide) (by decide)
 ·rw [aI h3];by_cases h4:n.tdiv 41%6=4
  ·rw [aV h4];exact key 3 4 (by decide) (by decide) (by decide) (by decide)
  ·rw [aI h4];by_cases h5:n.tdiv 41%6=5
   ·rw [aV h5];exact key 4 3 (by decide) (by decide) (by decide) (by decide)
   ·rw [aI h5];exact key 1 12 (by decide) (by decide) (by decide) (by decide)
theorem aZU (l:List Int) (i:Nat):∃z:Int,z.natAbs<256/\cE l i*12=(z:Rat):=by
 unfold cE;split
 ·exact a16 _
 ·exact ⟨0,by decide,by rw [Av];rfl⟩
def dnM (l:List Int) (n w:Int):List (List Rat):=aG (n%8).toNat (w%3+1).toNat fun i j=>cE l (i*(w%3+1).toNat+j)
theorem aXW (l:List Int) (n w:Int):(dnM l n w).length=(n%8).toNat:=mkM_len ..
theorem aZV (l:List Int) (n w:Int):SM 256 (dnM l n w):=fun i=>by
 by_cases hi:i<(n%8).toNat
 ·unfold dnM;rw [na hi];exact SL.mk (fun _ _=>(WT _ _).le (by omega)) (by omega)
 ·rw [mZ (by rw [aXW];omega)];exact SL.nil (by omega)
theorem a17 {l:List Int} {n w:Int} {is:List Bool} (h:chE (dnM l n w) is=0):NrG (dnM l n w) is:=by
 obtain ⟨h1,h2,h3⟩:=aVD h;have hp:0<(n%8).toNat:=by have:=(ba h1.1).1;rw [aXW] at this;exact this
 refine ⟨h1.1,h1.2.2.2,h2,?_,aZV l n w,fun i j=>?_,h3⟩
 ·unfold dnM;rw [tM hp];omega
 ·by_cases hi:i<(n%8).toNat
  ·by_cases hj:j<(w%3+1).toNat
   ·unfold dnM;rw [Ny hi hj];obtain ⟨z,z1,z2⟩:=aZU l (i*(w%3+1).toNat+j);exact ⟨z,by omega,z2⟩
   ·refine ⟨0,by decide,?_⟩;have e:el (dnM l n w) i j=0:=by
     unfold dnM el;rw [na hi,ss (by omega)]
    rw [e,Av];rfl
  ·refine ⟨0,by decide,?_⟩;have e:el (dnM l n w) i j=0:=by
    unfold el;rw [mZ (xs:=dnM l n w) (by rw [aXW];omega)];rfl
   rw [e,Av];rfl
def sdI (s:Int) (i:Nat):Bool:=decide (aZc .i64 (aZd .i64 s (IntKind.u64.wrap (((i:Nat):Int).tmod 60))) 1=1)
def dnN (n odd:Int):Nat:=(n%8).toNat+if odd%12=11 then 1 else 0
def dnS (s n odd:Int):List Bool:=aA (dnN n odd) (sdI s)
noncomputable def a0k:List az:=WM::[]
theorem aZW:bd a0k:=⟨QU,trivial⟩
def a2Q:List AV->Option (Option Prop×AV×List Ob)
 | [.k (.list .q) xs]=>some (some (SL BQ xs),.k (.list .rq) xs,[])
 | _=>none
def aXI:az:=⟨28,false,a2Q⟩
def aYJ (xs:List Rat):bk:=⟨nU,fun key_=>match key_ with
 | 3=>some (⟨Nat,fun i=>[(0,.k (.list .q) xs),(3,.own 3 0 3),(4,.k (.int .i64) ((i:Nat):Int))],
 fun i=>[(3,.arr 34 .rq (xs.take i))],fun _ i=>i<=xs.length,fun i=>xs.length-i⟩) | _=>none,nR,nU⟩
def aWH (xs:List Rat):Prop:=∃(x0:Nat),((xs=xs/\(0:Int)=(↑x0:Int))/\List.take x0 xs=[])/\x0<=xs.length/\∀(x:Nat),x<=xs.length->xs.length<=aB->bif decide ((↑x:Int) <
 (↑xs.length:Int)) then ((0:Int)<=(↑x:Int)/\(↑x:Int)<(↑xs.length:Int))/\Sq BQ (xs.getD (↑x:Int).toNat (0:Rat))/\(List.take x xs).length+[xs.getD (↑x
 : Int).toNat (0:Rat)].length<=aB/\ax ((↑x:Int)+(1:Int))/\∃(x':Nat),((xs=xs/\(↑x:Int)+(1:Int)=(↑x':Int))/\(List.take x xs).append [xs.getD
 (↑x:Int).toNat (0:Rat)]=List.take x' xs)/\x'<=xs.length/\xs.length-x'<xs.length-x else List.take x xs=xs
theorem aX0 (xs:List Rat):aw a0k [] (aYJ xs) Tryz.f28 (.k (.list .rq) xs) [.k (.list .q) xs]=aWH xs:=by kernel_rfl
theorem aX1 (xs:List Rat) (hg:SL BQ xs):aWH xs:=by unfold aWH;refine ⟨0,⟨⟨rfl,rfl⟩,rfl⟩,fi _,fun i hi hL=>aH (fun h=>⟨⟨by omega,h⟩,hg i,by unfold aB at hL ⊢;simp;omega,⟨by unfold aB at hL;omega,by unfold aB at hL;omega⟩,i+1,⟨⟨rfl,rfl⟩,qW (by omega)⟩,by omega,by omega⟩) fun h=>?_⟩;exact lN (by omega)
theorem aX2:aqn (cfg []) aXI:=cf aZW bp Tryz.func28 fun a _ _ _ hc hg hf=>by change a2Q a=_ at hc;unfold a2Q at hc;split at hc <;> cases hc;cases aY (aX0 _) (aX1 _ hg);exact ⟨rfl,by kernel_rfl,_,by assumption⟩
noncomputable def a0l:List az:=Cy::a4V::[]
theorem aZX:bd a0l:=⟨nJ,asq,trivial⟩
def a3S:List AV->Option (Option Prop×AV×List Ob)
 | [.k (.list (.int .i64)) l,.k (.int .i64) s,.k (.int .i64) n,.k (.int .i64) w,.k (.int .i64) odd]=>some (some ((∀i,ax (l.getD i 0))/\ax s/\ax n/\ax w/\ax odd),T2 (.k (.list (.list .rq)) (dnM l n w)) (.k (.list .bool) (dnS s n odd)),[])
 | _=>none
def aYK:az:=⟨5,false,a3S⟩
def aY8 (l:List Int) (s n w odd:Int):bk:=⟨nU,fun key_=>match key_ with
 | 7=>some (⟨Nat,fun i=>[(1,.k (.int .i64) s),(2,.k (.int .i64) ((dnN n odd:Nat):Int)),(12,.k (.list (.list .rq)) (dnM l n w)),(13,.own 13 0 1),(14,.k (.int .i64) ((i:Nat):Int))],
 fun i=>[(13,.arr 4 .bool (aA i (sdI s)))],
 fun _ i=>i<=dnN n odd,fun i=>dnN n odd-i⟩) | _=>none,nR,nU⟩
def aPS (l:List Int) (s n w odd:Int) (x:Nat):Prop:=bif decide ((↑x:Int)<(↑(dnN n odd):Int)) then (60:Int)≠(0:Int)/\(0:Int)<=IntKind.u64.wrap ((↑x:Int).tmod (60:Int))/\(aA x (sdI s)).length+[decide
 (aZc IntKind.i64 (aZd IntKind.i64 s (IntKind.u64.wrap ((↑x:Int).tmod (60:Int)))) (1:Int)=(1:Int))].length<=aB/\ax ((↑x:Int)+(1:Int))/\∃(x' :
 Nat),((s=s/\(↑(dnN n odd):Int)=(↑(dnN n odd):Int)/\dnM l n w=dnM l n w/\(↑x:Int)+(1:Int)=(↑x':Int))/\(aA x (sdI s)).append [decide (aZc
 IntKind.i64 (aZd IntKind.i64 s (IntKind.u64.wrap ((↑x:Int).tmod (60:Int)))) (1:Int)=(1:Int))]=aA x' (sdI s))/\x'<=dnN n odd/\dnN n odd-x'<dnN n odd -
 x else dnM l n w=dnM l n w/\aA x (sdI s)=dnS s n odd
def aXr (l:List Int) (s n w odd:Int):Prop:=
 let t1:=aG (n%(8:Int)).toNat (w%(3:Int)+(1:Int)).toNat fun (i j:Nat)=>cE l (i*(w%(3:Int)+(1:Int)).toNat+j);
 (ax n/\(0:Int)<(8:Int)/\(8:Int)<=(9223372036854775807:Int))/\(ax w/\(0:Int)<(3:Int)/\(3:Int)<=(9223372036854775807:Int))/\ax (w%(3 :
 Int)+(1:Int))/\((∀(i:Nat),ax (l.getD i (0:Int)))/\((0:Int)<=n%(8:Int)/\n%(8:Int)<=(1000000:Int))/\(0:Int)<=w%(3:Int)+(1:Int)/\w
 % (3:Int)+(1:Int)<=(1000000:Int))/\(ax odd/\(0:Int)<(12:Int)/\(12:Int)<=(9223372036854775807:Int))/\bif decide (odd%(12:Int)=(11:Int))
 then ax (n%(8:Int)+(1:Int))/\∃(x0:Nat),((s=s/\n%(8:Int)+(1:Int)=(↑(dnN n odd):Int)/\t1=dnM l n w/\(0:Int)=(↑x0:Int))/\aA x0 (sdI
 s)=[])/\x0<=dnN n odd/\∀(x:Nat),x<=dnN n odd->aPS l s n w odd x else ∃(x0:Nat),((s=s/\n%(8:Int)=(↑(dnN n odd):Int)/\t1=dnM l n w/\(0 :
 Int)=(↑x0:Int))/\aA x0 (sdI s)=[])/\x0<=dnN n odd/\∀(x:Nat),x<=dnN n odd->aPS l s n w odd x
theorem aYL (l:List Int) (s n w odd:Int):aw a0l [] (aY8 l s n w odd) Tryz.f5 (T2 (.k (.list (.list .rq)) (dnM l n w)) (.k (.list .bool) (dnS s n odd))) [.k (.list (.int .i64)) l,.k (.int .i64) s,.k (.int .i64) n,.k (.int .i64) w,.k (.int .i64) odd]=aXr l s n w odd:=by kernel_rfl
theorem aYM (l:List Int) (s n w odd:Int) (hg:(∀i,ax (l.getD i 0))/\ax s/\ax n/\ax w/\ax odd):aXr l s n w odd:=by
 obtain ⟨hl,hs,hn,hw,ho⟩:=hg;have key:∀x,x<=dnN n odd->aPS l s n w odd x:=fun x hx=>by
  unfold aPS;have hN:dnN n odd<=9:=by unfold dnN;split <;> omega
  have e0:0<=IntKind.u64.wrap (((x:Nat):Int).tmod 60):=by rw [IntKind.wrap_u64];omega
  refine aH (fun h=>?_) fun h=>?_
  ·refine ⟨by decide,e0,by rw [mX];show x+1<=aB;unfold aB;omega,by unfold ax;omega,x+1,⟨⟨rfl,rfl,rfl,rfl⟩,(tI x (sdI s)).symm⟩,by omega,by omega⟩
  ·exact ⟨rfl,by rw [show x=dnN n odd by omega];rfl⟩
 unfold aXr;have h2:dnM l n w=aG (n%8).toNat (w%3+1).toNat fun i j=>cE l (i*(w%3+1).toNat+j):=rfl
 refine ⟨⟨hn,by omega,by omega⟩,⟨hw,by omega,by omega⟩,by unfold ax;omega,⟨hl,⟨by omega,by omega⟩,by omega,by omega⟩,⟨ho,by omega,by omega⟩,aH (fun h=>⟨by unfold ax;omega,0,⟨⟨rfl,?_,rfl,rfl⟩,rfl⟩,fi _,key⟩) fun h=>⟨0,⟨⟨rfl,?_,rfl,rfl⟩,rfl⟩,fi _,key⟩⟩
 ·unfold dnN;rw [aV h];omega
 ·unfold dnN;rw [aI h];omega
theorem aYN:aqn (cfg []) aYK:=cf aZX bp Tryz.func5 fun a _ _ _ hc hg hf=>by change a3S a=_ at hc;unfold a3S at hc;split at hc <;> cases hc;cases aY (aYL _ _ _ _ _) (aYM _ _ _ _ _ hg);exact ⟨rfl,by kernel_rfl,_,by assumption⟩
noncomputable def a0m:List az:=aYK::Ap::aT3::aZf::aTP::aTG::aXI::aYB::aXd::WM::aYF::aYo::[]
theorem aZY:bd a0m:=⟨aYN,CL,aRD,aY0,aTS,aTK,aX2,aYE,aWL,QU,aYI,aYs,trivial⟩
noncomputable def a4I:List AV->Option (Option Prop×AV×List Ob)
 | [.k (.list (.int .i64)) l,.k (.int .i64) s,.k (.int .i64) n,.k (.int .i64) w,.k (.int .i64) odd]=>some (some ((∀i,ax (l.getD i 0))/\ax s/\ax n/\ax w/\ax odd),.k .bool true,[])
 | _=>none
noncomputable def a0e:az:=⟨4,false,a4I⟩
noncomputable def aZA (l:List Int) (s n w odd:Int):bk:=⟨fun key_=>match key_ with | 9=>40 | _=>0,nL,nR,nU⟩
def aX3 (l:List Int) (s n w odd:Int):Prop:=
 let t1:=dnS s n odd;
 let t2:=mfY (dnM l n w) t1;
 let t3:=meY (dnM l n w) t1;
 let t4:=mfW (dnM l n w) t1;
 ((∀(i:Nat),ax (l.getD i (0:Int)))/\ax s/\ax n/\ax w/\ax odd)/\SM BQ (dnM l n w)/\(chE (dnM l n w) t1=(0:Int)->NrG (dnM l n w) t1)/\SM BQ (dnM
 l n w)/\(chE (dnM l n w) t1=(0:Int)->NrG (dnM l n w) t1)/\bif !decide (chE (dnM l n w) t1=(0:Int)) then bif decide (mfE (dnM l n w) t1=chE (dnM l n w) t1)
 then bif decide (meE (dnM l n w) t1=chE (dnM l n w) t1) then t2.length<=aB->t4.length<=aB->ax ((↑t2.length:Int)+(↑t4.length:Int))/\(t3.length<=aB ->
 ax ((↑t2.length:Int)+(↑t4.length:Int)+(↑t3.length:Int))/\decide ((↑t2.length:Int)+(↑t4.length:Int)+(↑t3.length:Int)=(0:Int))=true) else false
 = true else false=true else bif decide (mfE (dnM l n w) t1=(8:Int)) then bif decide (meE (dnM l n w) t1=(0:Int)) then SL BQ t3/\((t3.length<=(24:Nat)/\SL
 GB t3)/\(WtP t3 t1->MgG (dnM l n w) t1 t3))/\bif joB (dnM l n w) t1 t3 then SM BQ (dnM l n w)/\NyG (dnM l n w) t1 t3/\bif bif decide (chE (dnM l n w) t1=(0:Int))
 then joB (dnM l n w) t1 t3 else false then t2.length<=aB->decide ((↑t2.length:Int)=(0:Int))=true else false=true else false=true else false=true else bif
 decide (mfE (dnM l n w) t1=(0:Int)) then bif decide (meE (dnM l n w) t1=(7:Int)) then bif decide ((↑t3.length:Int)=(0:Int)) then SL BQ t4/\Sq BQ (mfB (dnM
 l n w) t1)/\Sq BQ (mfD (dnM l n w) t1)/\SL BQ t2/\((t2.length<=(24:Nat)/\SL GB t2)/\(WtP t2 t1->MgG (dnM l n w) t1 t2)/\SL BQ t4/\Sq BQ (mfB (dnM l n w) t1) /\
 Sq BQ (mfD (dnM l n w) t1))/\bif decide (PrP (dnM l n w) t1 t4 (mfB (dnM l n w) t1) (mfD (dnM l n w) t1) t2) then SM BQ (dnM l n w)/\(NyG (dnM l n w) t1 t2/\SL BQ t4 /\
 Sq BQ (mfB (dnM l n w) t1)/\Sq BQ (mfD (dnM l n w) t1))/\decide (PrC (dnM l n w) t1 t4 (mfB (dnM l n w) t1) (mfD (dnM l n w) t1) t2)=true else false=true else false
 = true else false=true else false=true
theorem aY9 (l:List Int) (s n w odd:Int):aw a0m [] (aZA l s n w odd) Tryz.f4 (.k .bool true) [.k (.list (.int .i64)) l,.k (.int .i64) s,.k (.int .i64) n,.k (.int .i64) w,.k (.int .i64) odd]=aX3 l s n w odd:=by kernel_rfl
theorem aZa (l:List Int) (s n w odd:Int) (hg:(∀i,ax (l.getD i 0))/\ax s/\ax n/\ax w/\ax odd):aX3 l s n w odd:=by
 have hM':SM BQ (dnM l n w):=(aZV l n w).le (by unfold BQ;omega);have hN:chE (dnM l n w) (dnS s n odd)=0->NrG (dnM l n w) (dnS s n odd):=a17;unfold aX3;dsimp only;refine ⟨hg,hM',hN,hM',hN,?_⟩;generalize dnS s n odd=S at *
 generalize dnM l n w=M at *
 refine dP (fun h=>?_) fun h=>?_
 ·obtain ⟨e1,e2⟩:=a15 h;have e3:mfE M S=chE M S:=aI h;obtain ⟨⟨⟨w1,w2⟩,w3,w4⟩,_⟩:=aVx e3 h;rw [e1,e2,e3,w1,w4];exact aH (fun _=>aH (fun _ _ _=>⟨by show ax 0;unfold ax;omega,fun _=>⟨by show ax 0;unfold ax;omega,rfl⟩⟩) fun h=>absurd rfl h) fun h=>absurd rfl h
 ·have g:=hN h;by_cases h1:aOu M S=0
  ·have e3:mfE M S=8:=by unfold mfE;rw [aV h,aV h1]
   obtain ⟨e1,e2⟩:=a0d g h h1;obtain ⟨⟨⟨w1,w2⟩,w3,w4⟩,_⟩:=aVx e3 (by decide);have ny:=g.ny;have hj:joB M S (akv M S)=true:=by rw [g.jo,j3 h1]
   rw [e1,e2,e3,w4,hj];refine aH (fun _=>aH (fun _=>⟨ny.sb.le (by unfold GB BQ;omega),⟨⟨ny.n24,ny.sb⟩,ny.mg h⟩,?_⟩) fun h=>absurd rfl h) fun h=>absurd rfl h;rw [ia];refine ⟨hM',ny,?_⟩;rw [j3 h,ia,ia];exact fun _=>rfl
  ·have e3:mfE M S=0:=by unfold mfE;rw [aV h,aI h1]
   obtain ⟨e1,e2⟩:=aZT g h h1;obtain ⟨⟨⟨w1,w2⟩,w3,w4⟩,_⟩:=aUq e3;have ny:=g.ny;have mg:=g.mg;have pr:=g.pr h1;have hd:∀t,Sq 700000000 (dW (ptL M S (akv M S) t) (ptL M S (akv M S) t)):=fun t=>aVi (mg.sp t) (mg.sp t) (mg.lp t) (by omega);have hs:Sq BQ (stQ M S (akv M S)):=by unfold stQ;exact (((hd false).sub (hd true)).div (k:=64) Sq.atH (by decide)).le (by unfold BQ;omega)
   have hD:Sq BQ (aOu M S):=(aVi mg.sw mg.sw mg.lw (by omega):Sq 700000000 (aOu M S)).le (by unfold BQ;omega);have hW:SL BQ (wyL M S (akv M S)):=mg.sw.le (by unfold BQ;omega);rw [e1,e2,e3, <- w1, <- w2, <- w3, <- w4];refine aH (fun h=>absurd h (by decide)) fun _=>aH (fun _=>aH (fun _=>aH (fun _=>⟨hW,hs,hD,ny.sb.le (by unfold GB BQ;omega),⟨⟨ny.n24,ny.sb⟩,ny.mg h,hW,hs,hD⟩,?_⟩) fun h=>absurd rfl h) fun h=>absurd rfl h) fun h=>absurd rfl h;rw [j3 pr,ia];exact ⟨hM',⟨ny,hW,hs,hD⟩,j3 ⟨h,pr⟩⟩
theorem aZb:aqn (cfg []) a0e:=cf aZY bp Tryz.func4 fun a _ _ _ hc hg hf=>by change a4I a=_ at hc;unfold a4I at hc;split at hc <;> cases hc;cases aY (aY9 _ _ _ _ _) (aZa _ _ _ _ _ hg);exact ⟨rfl,by kernel_rfl,_,by assumption⟩
end Go.Proofs.YtlijkeolpmgioaaGreatDoor.AM
namespace Go.Proofs.YtlijkeolpmgioaaGreatDoor
open Go.ChangeShapes Go.WideShapes Go.ChangeAt Go.RowKit AM
noncomputable def aDM (os:Os):World:={ World.holding Tryz.prog os ⟨#[],#[],[]⟩ with heap:=((World.holding Tryz.prog os ⟨#[],#[],[]⟩).heap.modify 2 (OU #[.int .u8 0,.int .u8 1,.int .u8 56,.int .u8 2,.int .u8 57,.int .u8 49,.int .u8 28,.int .u8 3,.int .u8 61,.int .u8 58,.int .u8 42,.int .u8 50,.int .u8 38,.int .u8 29,.int .u8 17,.int .u8 4,.int .u8 62,.int .u8 47,.int .u8 59,.int .u8 36,.int .u8 45,.int .u8 43,.int .u8 51,.int .u8 22,.int .u8 53,.int .u8 39,.int .u8 33,.int .u8 30,.int .u8 24,.int .u8 18,.int .u8 12,.int .u8 5,.int .u8 63,.int .u8 55,.int .u8 48,.int .u8 27,.int .u8 60,.int .u8 41,.int .u8 37,.int .u8 16,.int .u8 46,.int .u8 35,.int .u8 44,.int .u8 21,.int .u8 52,.int .u8 32,.int .u8 23,.int .u8 11,.int .u8 54,.int .u8 26,.int .u8 40,.int .u8 15,.int .u8 34,.int .u8 20,.int .u8 31,.int .u8 10,.int .u8 25,.int .u8 14,.int .u8 19,.int .u8 9,.int .u8 13,.int .u8 8,.int .u8 7,.int .u8 6])) }
theorem aWt {W:World} (h:laidMetH Tryz.prog Rows.marginFitsRow.laid W):cK W:=by
 have h1:laidMet Tryz.prog [("math/bits.deBruijn64tab",Rows.laid_math_bits_deBruijn64tab)] W:=h
 exact EU (by kernel_rfl) h1 trivial
theorem aT2 (H:Type) (enc:TypeId×Value->H) (W:World) (base:Nat) (args:Array Value) (ds gs:List (DataW H)) (before:List MemPlace)
  (fV:∀(j:Nat) t v,Tryz.f4.params[j]? = some t->args[j]? = some v->Value.okWide Tryz.prog W .any base t v)
  (hW:DataW.Whole enc Tryz.prog Tryz.f4.params.toList Rows.marginFitsSpec.vars false W args.toList ds gs before) (aan:cK W) :
  Calls Tryz.prog 4 args W fun e W'=>∃v,e = .returned v/\Rows.marginFitsSpec.post enc Tryz.prog Tryz.f4 false true false false W args v W':=by
 have YR:=hW
 obtain ⟨p,q,hA0,hV,rfl,hfz,hnd⟩:=hW
 have hA:DataW.TrodAll enc Tryz.prog W 0 (fun _=>true) true Tryz.f4.params.toList args.toList ds p:=hA0
 rw [Tryz.params4] at hA fV
 obtain ⟨v0,vs0,d0,ds0,p0,q0,IE,rfl,rfl,h0,r0⟩:=trodAll_cons hA
 obtain ⟨v1,vs1,d1,ds1,p1,q1,rfl,rfl,rfl,h1,r1⟩:=trodAll_cons r0
 obtain ⟨v2,vs2,d2,ds2,p2,q2,rfl,rfl,rfl,h2,r2⟩:=trodAll_cons r1
 obtain ⟨v3,vs3,d3,ds3,p3,q3,rfl,rfl,rfl,h3,r3⟩:=trodAll_cons r2
 obtain ⟨v4,vs4,d4,ds4,p4,q4,rfl,rfl,rfl,h4,r4⟩:=trodAll_cons r3
 obtain ⟨rfl,rfl,rfl⟩:=trodAll_nil r4
 obtain rfl:args = #[v0,v1,v2,v3,v4]:=by cases args;simp_all
 obtain ⟨rfl,rfl⟩:=trodVars_none hV
 obtain ⟨l0,s0,g0⟩:=aet Tryz.underlying22 Tryz.underlying3 (by kernel_rfl) (fV 0 22 v0 rfl rfl) h0
 obtain ⟨a1,rfl,rfl,rfl,w1⟩:=open_int Tryz.underlying3 (fV 1 3 v1 rfl rfl) h1
 obtain ⟨a2,rfl,rfl,rfl,w2⟩:=open_int Tryz.underlying3 (fV 2 3 v2 rfl rfl) h2
 obtain ⟨a3,rfl,rfl,rfl,w3⟩:=open_int Tryz.underlying3 (fV 3 3 v3 rfl rfl) h3
 obtain ⟨a4,rfl,rfl,rfl,w4⟩:=open_int Tryz.underlying3 (fV 4 3 v4 rfl rfl) h4
 clear hA0
 refine (Mg (args:=[.k (.list (.int .i64)) l0,.k (.int .i64) a1,.k (.int .i64) a2,.k (.int .i64) a3,.k (.int .i64) a4]) (vs:=[v0,.int .i64 a1,.int .i64 a2,.int .i64 a3,.int .i64 a4]) aZb rfl ⟨g0,wf_i64 w1,wf_i64 w2,wf_i64 w3,wf_i64 w4⟩ aan ⟨s0,(.mkInt _ _),(.mkInt _ _),(.mkInt _ _),(.mkInt _ _),trivial⟩).mono fun e W' ⟨he,hg⟩=>?_
 subst he
 exact ⟨_,rfl,OV rfl rfl (fun t ht=>by
  rw [Tryz.params4] at ht;have bB:([22,3,3,3,3].all fun u=>Tryz.prog.readableRec u&&decide (u<Tryz.prog.types.size))=true:=by kernel_rfl
  have:=yr.1 bB t (by simpa using ht);simpa using this) YR ⟨rfl,rfl,rfl⟩ hg⟩
theorem aWR (os:Os):laidMet Tryz.prog Rows.marginFitsRow.laid ((aDM os).forCall (fun _ _=>0) ⟨#[],#[.slice none 0 0,.int .i64 0,.int .i64 0,.int .i64 0,.int .i64 0],[]⟩).memory:=laidMet_of_run' 8 (by kernel_rfl) (by kernel_rfl)
theorem aWu (os:Os) {H:Type} (enc:TypeId×Value->H):∃places,DataW.whole enc Tryz.prog ((aDM os).forCall (fun _ _=>0) ⟨#[],#[.slice none 0 0,.int .i64 0,.int .i64 0,.int .i64 0,.int .i64 0],[]⟩).memory Tryz.f4.params.toList Rows.marginFitsSpec.vars false (#[.slice none 0 0,.int .i64 0,.int .i64 0,.int .i64 0,.int .i64 0]:Array Value).toList 8=some ([.nil,.lit (.int .i64 0),.lit (.int .i64 0),.lit (.int .i64 0),.lit (.int .i64 0)],[],places):=⟨[],by kernel_rfl⟩
theorem aVk (os:Os) (started:os.Started) (H:Type) (enc:TypeId×Value->H) (F:Stop.Interp) :
  ReturnsInHanded {} Tryz.checked os 4 .any ((OpenSpec.ofChange Rows.marginFitsSpec).preRow enc Tryz.prog Tryz.f4 Rows.marginFitsRow.domain false Rows.marginFitsRow.laid) (((OpenSpec.ofChange Rows.marginFitsSpec).at F).post enc Tryz.prog Tryz.f4 false true false false):=by
 obtain ⟨places,hx⟩:=aWu os enc
 refine returnsInHanded_of_row (C:=Tryz.checked) (s:=OpenSpec.ofChange Rows.marginFitsSpec) own started (by kernel_rfl) Tryz.func4
  (witness_row_at (enc:=enc) (C:=Tryz.checked) false (aDM os) #[.slice none 0 0,.int .i64 0,.int .i64 0,.int .i64 0,.int .i64 0] rfl (by kernel_rfl) (by kernel_rfl) (by kernel_rfl)
   (OpenSpec.preRow_of_cond 8 hx (by kernel_rfl) (fun k hk=>by cases hk) (by kernel_rfl) (aWR os))) ?_
 intro W base args ds gs before fV hW _ _ _ hL _ _
 exact aT2 H enc W base args ds gs before fV hW (aWt hL)
theorem aWv:Rows.MarginFitsSaid:=
 OpenClaim.holds_of_cond 4 Tryz.f4 rfl rfl rfl rfl rfl rfl rfl ⟨rfl,rfl,rfl,rfl,rfl⟩ rfl rfl rfl rfl rfl (by kernel_rfl) Tryz.func4 (by kernel_rfl)
  (CW (by kernel_rfl)) (by unfold Func.isWrapper;first | (rw [aV (by decide +kernel)];kernel_rfl) | (rw [aI (by decide +kernel)];exact ⟨rfl,rfl⟩))
  (fun os started H enc _ F=>by rw [OpenClaim.pre_eq_preRow];exact aVk os started H enc F)
theorem aWy (f:FuncId) (fn:Func) (hf:Tryz.pinned.checked.prog.funcNamed "abaculus/abaculuslaw32.MarginFits" = some f) (hfn:Tryz.pinned.checked.prog.funcs[f]? = some fn) :
  false=Tryz.pinned.checked.prog.looks []/\∀(j:Nat) t,fn.params[j]? = some t->Tryz.pinned.checked.prog.wantsStandIn t=false:=by
 obtain rfl:f=4:=Option.some.inj ((show Tryz.prog.funcNamed "abaculus/abaculuslaw32.MarginFits" = some 4 by kernel_rfl).symm.trans hf) |>.symm
 obtain rfl:fn=Tryz.f4:=(Option.some.inj (Tryz.func4.symm.trans hfn)).symm
 refine ⟨by kernel_rfl,fun j t ht=>?_⟩
 rw [Tryz.params4] at ht
 have hm:t∈[22,3,3,3,3]:=by simpa using Array.mem_of_getElem? ht
 have bB:([22,3,3,3,3].all fun u=> !Tryz.prog.wantsStandIn u)=true:=by kernel_rfl
 exact (show Tryz.prog.wantsStandIn t=false by simpa using yr.1 bB t hm)
theorem marginFitsCard_holds:Rows.MarginFitsCardSaid:=Claim7.holds_tied_plain_at .later [] _ _ _ _ aWv (fun _ h=>by cases h) (by kernel_rfl) (fun _ h=>by cases h) marginFits_row_tie rfl ⟨rfl,rfl⟩ (by kernel_rfl) rfl aWy (by kernel_rfl)
#print axioms marginFitsCard_holds
end Go.Proofs.YtlijkeolpmgioaaGreatDoor
