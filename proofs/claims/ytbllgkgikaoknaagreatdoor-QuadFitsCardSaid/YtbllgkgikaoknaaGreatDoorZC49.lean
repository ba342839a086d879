/- QuadFits: the fitted line, its loss, slope and values are those that the document tells. Chapter 12's statements: lines as the document says, by abstract execution. (Printed by vc.py.) The document's lines of least squares, by abstract execution. (Printed by vc.py.) The document's determinants and inverses, by abstract execution. (Printed by vc.py.) elim.Det: determinants by elimination, by abstract execution. (Printed by vc.py.) Determinants in plain mathematics: by elimination, and of whole numbers without fractions. The document's reduced forms, kernels, solutions, by abstract execution. (Printed by vc.py.) Chapter 12's statements: the line of least squares, by abstract execution. (Printed by vc.py.) Least squares: what a fitted line is. -/
import Derived.Test.YtbllgkgikaoknaaGreatDoorCards
import Derived.Test.YtbllgkgikaoknaaGreatDoorBd11
set_option maxRecDepth 100000
set_option linter.unusedVariables false
set_option linter.unusedSimpArgs false
set_option maxHeartbeats 1000000
namespace Go.Proofs.YtbllgkgikaoknaaGreatDoor.AM
section
variable {x:List (List Rat)} {y:List Rat} {r:Rat}
theorem asM {i j:Nat} (hi:i<al x+1) (hj:j<al x+1):el (aM x r) i j=akl x.length (al x) (el x) r i j:=Ny hi hj
theorem atS:(ab2 (aM x r)).2=(rr (al x+1) (akl x.length (al x) (el x) r) (al x+1)).2:=by unfold ab2;rw [aqE,show abY (aM x r)=al x+1 from apy];exact (aed (fun i j hi hj=>asM hi hj) _ (dz _)).1
theorem aqH:(aeE (aM x r)).length=0↔(rr (al x+1) (akl x.length (al x) (el x) r) (al x+1)).2.length=al x+1:=by unfold aeE;rw [ahR,atS,show abY (aM x r)=al x+1 from apy];have:=ak7 (al x+1) (akl x.length (al x) (el x) r) (al x+1);omega
theorem atT (n w:Nat) (X:Nat->Nat->Rat) (r:Rat) (a b:Nat):akl n w X r a b=akl n w X r b a:=by
 unfold akl rdF;rw [uv (f:=fun i=>ab5 w X i a*ab5 w X i b) (g:=fun i=>ab5 w X i b*ab5 w X i a) fun i _=>LL ..];congr 1;by_cases h:a=b
 ·rw [h]
 ·rw [fh fun e=>h e.1,fh fun e=>h e.1.symm]
theorem arN (h:(rr (al x+1) (akl x.length (al x) (el x) r) (al x+1)).2.length=al x+1):abL (aM x r) (rhL x y)=true:=by
 cases hs:abL (aM x r) (rhL x y) with
 | true=>rfl
 | false=>
  obtain ⟨z,h1,h2⟩:=alU hs;rw [aqE] at h1 h2;rw [apy] at h1;have hz:∀j,j<al x+1->z j=0:=fun j hj=>aq8 h (v:=z) (fun i hi=>by rw [<-h1 i hi];exact uv fun k hk=>by rw [asM hk hi,atT,LL]) hj
  rw [acj fun i hi=>by rw [hz i hi,Rat.zero_mul]] at h2;exact absurd h2 (by decide)
theorem arO (h:aoK x y r=true):(rr (al x+1) (akl x.length (al x) (el x) r) (al x+1)).2.length=al x+1:=by
 unfold aoK at h
 cases hs:abL (aM x r) (rhL x y) with
 | false=>rw [hs] at h;cases h
 | true=>rw [hs] at h;exact aqH.1 (CY h)
theorem ap9 (hr:0<=r) (h:aoK x y r=true):aga x y r=(aer (aM x r) (rhL x y)).take (al x)/\aci x y r=(aer (aM x r) (rhL x y)).getD (al x) 0/\apq x y r=0:=by have h2:decide (r.num<0)=false:=pj (by have:=K4.2 hr;omega);unfold aga aci apq;rw [h2,h];exact ⟨rfl,rfl,rfl⟩
theorem atU (hr:0<=r) (h:aoK x y r=false):aga x y r=[]/\aci x y r=0/\apq x y r=9:=by have h2:decide (r.num<0)=false:=pj (by have:=K4.2 hr;omega);unfold aga aci apq;rw [h2,h];exact ⟨rfl,rfl,rfl⟩
end
theorem arw {x:List (List Rat)} {y:List Rat} {r:Rat} (hT:Trn x y) (uG:Sq 256 r) (hr:0<=r) (h:aoK x y r=true):SL 30000000 (aga x y r)/\Sq 30000000 (aci x y r):=by
 have hs:=hT.aer uG;refine ⟨?_,?_⟩
 ·rw [(ap9 hr h).1];intro i;rcases cM i (al x) with hi | hi
  ·rw [getD_take hi];exact hs i
  ·rw [mZ (by rw [kI];omega)];exact Sq.zero _ (by omega)
 ·rw [(ap9 hr h).2.1];exact hs _
open Go.RowKit
def cvRowsI:az:=⟨27,false,fun args=>match args with
 | [.k (.list (.int .i64)) l,.k (.int .i64) n,.k (.int .i64) m]=>some (some ((∀i,ax (l.getD i 0))/\((0:Int)<=n/\n<=1000000)/\(0:Int)<=m/\m<=1000000),.k (.list (.list .rq)) (aG n.toNat m.toNat fun i j=>cE l (i*m.toNat+j)),[])
 | _=>none⟩
theorem asq:ah (cfg []) cvRowsI:=ly agI fun args g r hn hc hg=>by
 split at hc
 ·rename_i l n m;obtain ⟨rfl,rfl,rfl⟩:=aN hc;obtain ⟨h1,⟨h2,h3⟩,h4,h5⟩:=hg;have h2 : @LE.le Int _ 0 n:=h2;have h3 : @LE.le Int _ n 1000000:=h3;have h4 : @LE.le Int _ 0 m:=h4;have h5 : @LE.le Int _ m 1000000:=h5;obtain ⟨a,rfl⟩:=Af h2;obtain ⟨b,rfl⟩:=Af h4;exact ⟨_,rfl,h1,by omega,by omega⟩
 ·cases hc
def cvRowI:az:=⟨14,false,fun args=>match args with
 | [.k (.list (.int .i64)) l,.k (.int .i64) n]=>some (some ((∀i,ax (l.getD i 0))/\(0:Int)<=n/\n<=1000000),.k (.list .rq) (aA n.toNat (cE l)),[])
 | _=>none⟩
theorem asN:ah (cfg []) cvRowI:=ly ahA fun args g r hn hc hg=>by
 split at hc
 ·rename_i l n;obtain ⟨rfl,rfl,rfl⟩:=aN hc;obtain ⟨h1,h2,h3⟩:=hg;have h2 : @LE.le Int _ 0 n:=h2;have h3 : @LE.le Int _ n 1000000:=h3;obtain ⟨a,rfl⟩:=Af h2;exact ⟨_,rfl,h1,by omega⟩
 ·cases hc
def abK (l:List Int) (n w:Int):List (List Rat):=aG (1+n%8).toNat (1+w%3).toNat fun i j=>cE l (i*(1+w%3).toNat+j)
def ab0 (l:List Int) (n w:Int):List Rat:=aA (1+n%8).toNat fun i=>cE l ((1+n%8).toNat*(1+w%3).toNat+i)
theorem atW (l:List Int) (n w:Int):Trn (abK l n w) (ab0 l n w):=by
 unfold abK ab0;have h1:1<=(1+n%8).toNat/\(1+n%8).toNat<=8:=by omega
 have h2:1<=(1+w%3).toNat/\(1+w%3).toNat<=3:=by omega
 generalize (1+n%8).toNat=a at *
 generalize (1+w%3).toNat=b at *
 refine ⟨Lh (by omega) (by omega) _,by rw [mkM_len];omega,?_,by rw [mkM_len,mX],SM.mk (fun i j _ _=>(WT l _).le (by omega)) (by omega),SL.mk (fun i _=>(WT l _).le (by omega)) (by omega)⟩;unfold al;rw [na (by omega),mX];omega
theorem arz {a:Int} (h:ax a):Sq 256 (a:Rat):=(Sq.int (k:=64) (Sm.lit (by unfold ax at h;omega)) (by omega)).le (by omega)
theorem asO {a:Int} (h:ax a):SL 256 [(a:Rat)]:=fun i=>match i with
 | 0=>arz h
 | _+1=>Sq.zero _ (by omega)
noncomputable def aul:List az:=Cy::cvRowsI::cvRowI::[]
theorem atX:bd aul:=⟨nJ,asq,asN,trivial⟩
def ar2:List AV->Option (Option Prop×AV×List Ob)
 | [.k (.list (.int .i64)) l,.k (.int .i64) n,.k (.int .i64) w]=>some (some ((∀i,ax (l.getD i 0))/\ax n/\ax w),T2 (.k (.list (.list .rq)) (abK l n w)) (.k (.list .rq) (ab0 l n w)),[])
 | _=>none
def asZ:az:=⟨4,false,ar2⟩
def atm (l:List Int) (n w:Int):bk:=⟨fun key_=>match key_ with | 3=>13 | _=>0,nL,nR,nU⟩
def ar3 (l:List Int) (n w:Int):Prop:=
 let t1:=(1:Int)+w%(3:Int);
 let t2:=(1:Int)+n%(8:Int);
 let t3:=some (if t2*t1<(↑l.length:Int) then t2*t1 else (↑l.length:Int));
 (ax n/\(0:Int)<(8:Int)/\(8:Int)<=(9223372036854775807:Int))/\ax t2/\(ax w/\(0:Int)<(3:Int)/\(3:Int)<=(9223372036854775807:Int))/\ax
 t1/\((∀(i:Nat),ax (l.getD i 0))/\((0:Int)<=(1:Int)+n%(8:Int)/\(1:Int)+n%(8:Int)<=(1000000:Int))/\(0:Int)<=(1:Int)+w%(3 :
 Int)/\(1:Int)+w%(3:Int)<=(1000000:Int))/\ax (t2*t1)/\rz l.length t3 none none/\((∀(i:Nat),ax ((cutL l t3 none).getD i 0))/\(0:Int) <=
 (1:Int)+n%(8:Int)/\(1:Int)+n%(8:Int)<=(1000000:Int))/\(aG t2.toNat t1.toNat fun (i j:Nat)=>cE l (i*t1.toNat+j))=abK l n w/\aA
 t2.toNat (cE (cutL l t3 none))=ab0 l n w
theorem asP (l:List Int) (n w:Int):aw aul [] (atm l n w) Tryz.f4 (T2 (.k (.list (.list .rq)) (abK l n w)) (.k (.list .rq) (ab0 l n w))) [.k (.list (.int .i64)) l,.k (.int .i64) n,.k (.int .i64) w]=ar3 l n w:=by kernel_rfl
theorem asQ (l:List Int) (n w:Int) (hg:(∀i,ax (l.getD i 0))/\ax n/\ax w):ar3 l n w:=by
 obtain ⟨hl,hn,hw⟩:=hg;unfold ar3 abK ab0;dsimp only;have h1:1<=1+n%8/\1+n%8<=8:=by omega
 have h2:1<=1+w%3/\1+w%3<=3:=by omega
 generalize 1+n%8=s at *
 generalize 1+w%3=t at *
 obtain ⟨a,rfl⟩:=Af (show 0<=s by omega);obtain ⟨b,rfl⟩:=Af (show 0<=t by omega);have e:(a:Int)*(b:Int)=((a*b:Nat):Int):=(yZ a b).symm;have hb:a*b<=8*3:=Ag (by omega) (by omega);rw [e];exact ⟨⟨hn,by omega,by omega⟩,by unfold ax;omega,⟨hw,by omega,by omega⟩,by unfold ax;omega,⟨hl,⟨by omega,by omega⟩,by omega,by omega⟩,by unfold ax;omega,⟨by split <;> omega,by split <;> omega⟩,⟨QZ hl _,by omega,by omega⟩,rfl,bE fun j _=>QY l (a*b) j⟩
theorem asR:ah (cfg []) asZ:=cf atX bp Tryz.func4 (by kernel_rfl) fun args g r hn hc hg hf=>by
 replace hc:ar2 args=some (g,r,hn):=hc;unfold ar2 at hc;split at hc
 ·obtain ⟨rfl,rfl,rfl⟩:=aN hc;cases aY (asP _ _ _) (asQ _ _ _ hg);exact ⟨rfl,by kernel_rfl,_,by assumption⟩
 ·cases hc
noncomputable def aum:List az:=xQ::Ap::xV::aa5::asJ::aa9::[]
theorem atY:bd aum:=⟨mV,CL,uw,V5,arM,WS,trivial⟩
def fvKnown:List AV->Option (Option Prop×AV×List Ob)
 | []=>some (none,.k .bool true,[])
 | _=>none
def asr:az:=⟨11,false,fvKnown⟩
def asS  : bk:=⟨nU,nL,nR,nU⟩
def arA  : Prop:=
 let t1:=(↑(1:Int):Rat);
 let t2:=(↑(0:Int):Rat);
 let t3:=aga [[t2],[t1],[(↑(2:Int):Rat)]] [t1,(↑(3:Int):Rat),(↑(5:Int):Rat)] t2;
 ax (0:Int)/\ax (1:Int)/\ax (2:Int)/\SM BQ [[t2],[t1],[(↑(2:Int):Rat)]]/\ax (1:Int)/\ax (3:Int)/\ax (5:Int)/\SL BQ [t1,(↑(3:Int) :
 Rat),(↑(5:Int):Rat)]/\ax (0:Int)/\(Trn [[t2],[t1],[(↑(2:Int):Rat)]] [t1,(↑(3:Int):Rat),(↑(5:Int):Rat)]/\Sq (256:Nat) t2)/\(t3.length<=aB
 -> ((0:Int)<=(0:Int)/\(0:Int)<(↑t3.length:Int))/\(Sq BQ (t3.getD (Int.toNat (0:Int)) 0)/\ax (2:Int)/\ax (1:Int)/\(1:Int)≠0) /\
 (Sq BQ (aci [[t2],[t1],[(↑(2:Int):Rat)]] [t1,(↑(3:Int):Rat),(↑(5:Int):Rat)] t2)/\ax (1:Int)/\ax (1:Int)/\(1:Int)≠0)/\decide (aci
 [[t2],[t1],[(↑(2:Int):Rat)]] [t1,(↑(3:Int):Rat),(↑(5:Int):Rat)] t2=t1/t1)=true)
theorem ass  : aw aum [] (asS ) Tryz.f11 (.k .bool true) []=arA  :=by kernel_rfl
theorem ast  (hf:cJ []):arA  :=by
 have i0:ax 0:=by unfold ax;omega
 have i1:ax 1:=by unfold ax;omega
 have i2:ax 2:=by unfold ax;omega
 have i3:ax 3:=by unfold ax;omega
 have i5:ax 5:=by unfold ax;omega
 have hB:(256:Nat)<=BQ:=by unfold BQ;omega
 have hx:SM 256 [[((0:Int):Rat)],[((1:Int):Rat)],[((2:Int):Rat)]]:=fun i=>match i with
  | 0=>asO i0
  | 1=>asO i1
  | 2=>asO i2
  | _+3=>SL.nil (by omega)
 have hy:SL 256 [((1:Int):Rat),((3:Int):Rat),((5:Int):Rat)]:=fun i=>match i with
  | 0=>arz i1
  | 1=>arz i3
  | 2=>arz i5
  | _+3=>Sq.zero _ (by omega)
 have e1:aga [[((0:Int):Rat)],[((1:Int):Rat)],[((2:Int):Rat)]] [((1:Int):Rat),((3:Int):Rat),((5:Int):Rat)] ((0:Int):Rat)=[((2:Int):Rat)]:=by kernel_rfl
 have e2:aci [[((0:Int):Rat)],[((1:Int):Rat)],[((2:Int):Rat)]] [((1:Int):Rat),((3:Int):Rat),((5:Int):Rat)] ((0:Int):Rat)=((1:Int):Rat):=by kernel_rfl
 unfold arA;dsimp only;rw [e1,e2];exact ⟨i0,i1,i2,hx.le hB,i1,i3,i5,hy.le hB,i0,⟨⟨rfl,by decide,by decide,rfl,hx,hy⟩,arz i0⟩,fun _=>⟨⟨by omega,by decide⟩,⟨(arz i2).le hB,i2,i1,by decide⟩,⟨(arz i1).le hB,i1,i1,by decide⟩,by kernel_rfl⟩⟩
theorem asu:ah (cfg []) asr:=cf atY bp Tryz.func11 (by kernel_rfl) fun args g r hn hc hg hf=>by
 replace hc:fvKnown args=some (g,r,hn):=hc;unfold fvKnown at hc;split at hc
 ·obtain ⟨rfl,rfl,rfl⟩:=aN hc;cases aY (ass ) (ast  hf);exact ⟨rfl,by kernel_rfl,_,by assumption⟩
 ·cases hc
theorem alm {n m r:Nat} {F:Nat->Nat->Rat} {f:Nat->Rat} (h:r<n):(aG n m F).set r (aA m f)=aG n m fun i=>if i=r then f else F i:=by
 unfold aG;rw [mY h];refine bE fun i _=>?_
 by_cases e:i=r
 ·rw [gU e];exact EX (aA m) (gU e).symm
 ·rw [fh e];exact EX (aA m) (fh e).symm
def stM (M:LM) (c:Nat):LM:=aG M.length (al M) (L5 M c).1
def swM (M:LM) (c:Nat):LM:=aG M.length (al M) (swR M c)
def scM (M:LM) (c:Nat):LM:=aG M.length (al M) (scR M c)
def elM (M:LM) (c i:Nat):LM:=aG M.length (al M) (elT M c i)
def ldM (M:LM) (c:Nat):List Int:=K5 (L5 M c).2
noncomputable def LY1:List az:=aoo::aoL::xQ::GK::aot::[]
theorem ao4:bd LY1:=⟨aof,aoA,mV,GO,aoj,trivial⟩
def frReduce:CF
 | [.k (.list (.list .rq)) M]=>some (some (aj M=true/\acu M),T2 (.k (.list (.list .rq)) (aaf M)) (.k (.list (.int .i64)) (abp M)),[])
 | _=>none
def am3:az:=⟨95,false,frReduce⟩
def an5 (M:LM):bk:=⟨fun key_=>match key_ with | 15=>12 | 16=>15 | 21=>17 | _=>0,fun key_=>match key_ with
 | 3=>some (⟨Nat,fun i=>[(0,.k (.list (.list .rq)) M),(4,.own 4 0 1),(5,.k (.int .i64) ((i:Nat):Int))],
 fun i=>[(4,.arr 25 (.list .rq) (aA i fun t=>M.getD t []))],fun _ i=>i<=M.length,fun i=>M.length-i⟩)
 | 9=>some (⟨Nat,fun c=>[(0,.k (.list (.list .rq)) M),(4,.own 4 0 1),(6,.own 6 0 1),(7,.k (.int .i64) ((nx M c:Nat):Int)),(8,.k (.int .i64) ((c:Nat):Int))],
 fun c=>[(4,.arr 25 (.list .rq) (stM M c)),(6,.arr 3 (.int .i64) (ldM M c))],
 fun _ c=>c<=al M,fun c=>al M-c⟩)
 | 12=>some (⟨Nat×Nat,fun p=>[(0,.k (.list (.list .rq)) M),(4,.own 4 0 1),(6,.own 6 0 1),(7,.k (.int .i64) ((nx M p.2:Nat):Int)),(8,.k (.int .i64) ((p.2:Nat):Int)),(9,.k (.int .i64) ((p.1:Nat):Int))],
 fun p=>[(4,.arr 25 (.list .rq) (stM M p.2)),(6,.arr 3 (.int .i64) (ldM M p.2))],
 fun q p=>p.2=q.2/\p.2<al M/\nx M p.2<=p.1/\p.1<=M.length/\pvR M p.2=pivN (L5 M p.2).1 p.2 p.1 (M.length-p.1),fun p=>M.length-p.1⟩)
 | 1000014=>some (⟨Nat,fun c=>[(0,.k (.list (.list .rq)) M),(4,.own 4 0 1),(6,.own 6 0 1),(7,.k (.int .i64) ((nx M c:Nat):Int)),(8,.k (.int .i64) ((c:Nat):Int)),(9,.k (.int .i64) ((pvR M c:Nat):Int)),(61,.k .bool (decide (((pvR M c:Nat):Int)=((M.length:Nat):Int))))],
 fun c=>[(4,.arr 25 (.list .rq) (stM M c)),(6,.arr 3 (.int .i64) (ldM M c))],
 fun q c=>c=q/\c<al M/\nx M c<M.length,fun c=>0⟩)
 | 1000015=>some (⟨Nat,fun c=>[(0,.k (.list (.list .rq)) M),(4,.own 4 0 1),(6,.own 6 0 1),(7,.k (.int .i64) ((nx M c:Nat):Int)),(8,.k (.int .i64) ((c:Nat):Int))],
 fun c=>[(4,.arr 25 (.list .rq) (swM M c)),(6,.arr 3 (.int .i64) (ldM M c))],
 fun q c=>c=q/\c<al M/\pvR M c<M.length,fun c=>0⟩)
 | 1000016=>some (⟨Nat,fun c=>[(0,.k (.list (.list .rq)) M),(4,.own 4 0 1),(6,.own 6 0 1),(7,.k (.int .i64) ((nx M c:Nat):Int)),(8,.k (.int .i64) ((c:Nat):Int))],
 fun c=>[(4,.arr 25 (.list .rq) (scM M c)),(6,.arr 3 (.int .i64) (ldM M c))],
 fun q c=>c=q/\c<al M/\pvR M c<M.length,fun c=>0⟩)
 | 18=>some (⟨Nat×Nat,fun p=>[(0,.k (.list (.list .rq)) M),(4,.own 4 0 1),(6,.own 6 0 1),(7,.k (.int .i64) ((nx M p.2:Nat):Int)),(8,.k (.int .i64) ((p.2:Nat):Int)),(10,.k (.int .i64) ((p.1:Nat):Int))],
 fun p=>[(4,.arr 25 (.list .rq) (elM M p.2 p.1)),(6,.arr 3 (.int .i64) (ldM M p.2))],
 fun q p=>p.2=q.2/\p.2<al M/\pvR M p.2<M.length/\p.1<=M.length,fun p=>M.length-p.1⟩) | _=>none,nR,nU⟩
def ajA (M:LM) (y1:Nat×Nat) (x:Nat):Prop:=(stM M y1.2).length<=aB->∃(abq:Nat),((M=M/\(↑(nx M y1.2):Int)=(↑(nx M abq):Int)/\(↑y1.2:Int)=↑abq/\(↑y1.1:Int)=(↑(pvR M abq) :
 Int)/\decide ((↑y1.1:Int)=(↑(stM M y1.2).length:Int))=decide ((↑(pvR M abq):Int)=(↑M.length:Int)))/\stM M y1.2=stM M abq/\ldM M y1.2=ldM M abq) /\
 (abq=abq/\abq<al M/\nx M abq<M.length)/\∀(y2:Nat),let u7:=(↑(pvR M y2):Int);let u5:=(↑(nx M y2):Int);
 let u8:=(stM M y2).set u5.toNat ((stM M y2).getD u7.toNat []);y2=abq/\y2<al M/\nx M y2<M.length->bif decide (u7=(↑M.length:Int)) then ax ((↑y2 :
 Int)+(1:Int))/\∃(x':Nat),((M=M/\u5=(↑(nx M x'):Int)/\(↑y2:Int)+1=↑x')/\stM M y2=stM M x'/\ldM M y2=ldM M x')/\x'<=al M
 /\ al M-x'<al M-x else ((0:Int)<=u7/\u7<(↑(stM M y2).length:Int))/\u7.toNat<(stM M y2).length/\((0:Int)<=u5/\u5<(↑(stM M y2).length:Int)) /\
 u5.toNat<(stM M y2).length/\((0:Int)<=u5/\u5<(↑(stM M y2).length:Int))/\u5.toNat<(stM M y2).length/\((0:Int)<=u7/\u7<(↑u8.length:Int))/\u7.toNat <
 u8.length/\∃(abq:Nat),((M=M/\u5=(↑(nx M abq):Int)/\(↑y2:Int)=↑abq)/\u8.set u7.toNat ((stM M y2).getD u5.toNat [])=swM M abq/\ldM M y2 =
 ldM M abq)/\(abq=abq/\abq<al M/\pvR M abq<M.length)/\∀(y3:Nat),let u1:=(↑(nx M y3):Int);let u6:=(swM M y3).getD u1.toNat [];y3=abq/\y3
 < al M/\pvR M y3<M.length->((0:Int)<=u1/\u1<(↑(swM M y3).length:Int))/\u1.toNat<(swM M y3).length/\ax (1:Int)/\((0:Int)<=u1/\u1<(↑(swM M
 y3).length:Int))/\u1.toNat<(swM M y3).length/\(0<=(↑y3:Int)/\(↑y3:Int)<↑u6.length)/\(Sq BQ (↑(1:Int):Rat)/\Sq BQ (u6.getD (↑y3 :
 Int).toNat 0)/\u6.getD (↑y3:Int).toNat 0≠0)/\(SL BQ u6/\Sq BQ ((↑(1:Int):Rat)/u6.getD (↑y3:Int).toNat 0))/\((0:Int)<=u1
 /\ u1<(↑(swM M y3).length:Int))/\u1.toNat<(swM M y3).length/\∃(abq:Nat),((M=M/\u1=(↑(nx M abq):Int)/\(↑y3:Int)=↑abq)/\(swM M y3).set
 u1.toNat (aA u6.length fun (j:Nat)=>u6.getD j 0*((↑(1:Int):Rat)/u6.getD (↑y3:Int).toNat 0))=scM M abq/\ldM M y3=ldM M abq)/\(abq =
 abq/\abq<al M/\pvR M abq<M.length)/\∀(y4:Nat),y4=abq/\y4<al M/\pvR M y4<M.length->∃(abn:Nat×Nat),((M=M/\(↑(nx M y4):Int) =
 (↑(nx M abn.2):Int)/\(↑y4:Int)=↑abn.2/\(0:Int)=(↑abn.1:Int))/\scM M y4=elM M abn.2 abn.1/\ldM M y4=ldM M abn.2)/\(abn.2 =
 abn.2/\abn.2<al M/\pvR M abn.2<M.length/\abn.1<=M.length)/\∀(y5:Nat×Nat),let u4:=elM M y5.2 y5.1;let u3:=(↑(nx M y5.2):Int);
 let u2:=u4.getD (↑y5.1:Int).toNat [];y5.2=abn.2/\y5.2<al M/\pvR M y5.2<M.length/\y5.1<=M.length->u4.length<=aB->bif decide ((↑y5.1:Int) <
 (↑u4.length:Int)) then bif !decide ((↑y5.1:Int)=u3) then (0<=(↑y5.1:Int)/\(↑y5.1:Int)<↑u4.length)/\(↑y5.1:Int).toNat<u4.length/\((0 :
 Int)<=u3/\u3<(↑u4.length:Int))/\u3.toNat<u4.length/\(0<=(↑y5.1:Int)/\(↑y5.1:Int)<↑u4.length)/\(↑y5.1:Int).toNat<u4.length/\((0 :
 Int)<=(↑y5.2:Int)/\(↑y5.2:Int)<↑u2.length)/\(u2.length<=(u4.getD u3.toNat []).length/\SL BQ u2/\SL BQ (u4.getD u3.toNat [])/\Sq BQ (u2.getD (↑y5.2 :
 Int).toNat 0)/\∀(j:Nat),Sq BQ (u2.getD (↑y5.2:Int).toNat 0*(u4.getD u3.toNat []).getD j 0))/\(0<=(↑y5.1:Int)/\(↑y5.1:Int)
 < (↑u4.length:Int))/\(↑y5.1:Int).toNat<u4.length/\ax ((↑y5.1:Int)+1)/\∃(x'b:Nat×Nat),((M=M/\u3=(↑(nx M x'b.2):Int)/\(↑y5.2:Int) =
 (↑x'b.2:Int)/\(↑y5.1:Int)+1=↑x'b.1)/\u4.set (↑y5.1:Int).toNat (aA u2.length fun (j:Nat)=>u2.getD j 0-u2.getD (↑y5.2 :
 Int).toNat 0*(u4.getD u3.toNat []).getD j 0)=elM M x'b.2 x'b.1/\ldM M y5.2=ldM M x'b.2)/\(x'b.2=abn.2/\x'b.2<al M/\pvR M x'b.2 <
 M.length/\x'b.1<=M.length)/\M.length-x'b.1<M.length-y5.1 else ax ((↑y5.1:Int)+1)/\∃(x'b:Nat×Nat),((M=M/\u3=(↑(nx M x'b.2):Int) /\
 (↑y5.2:Int)=↑x'b.2/\(↑y5.1:Int)+1=↑x'b.1)/\elM M y5.2 y5.1=elM M x'b.2 x'b.1/\ldM M y5.2=ldM M x'b.2)/\(x'b.2=abn.2/\x'b.2
 < al M/\pvR M x'b.2<M.length/\x'b.1<=M.length)/\M.length-x'b.1<M.length-y5.1 else (ldM M y5.2).length+[(↑y5.2:Int)].length<=aB/\ax (u3+(1 :
 Int))/\ax ((↑y5.2:Int)+1)/\∃(x':Nat),((M=M/\u3+(1:Int)=(↑(nx M x'):Int)/\(↑y5.2:Int)+1=↑x')/\elM M y5.2 y5.1=stM
 M x'/\(ldM M y5.2).append [(↑y5.2:Int)]=ldM M x')/\x'<=al M/\al M-x'<al M-x
def am4 (M:LM):Prop:=∃(x0:Nat),((M=M/\(0:Int)=(↑x0:Int))/\(aA x0 fun (t:Nat)=>M.getD t [])=[])/\x0<=M.length/\∀(x:Nat),x<=M.length->M.length<=aB->bif decide
 ((↑x:Int)<↑M.length) then (0<=(↑x:Int)/\(↑x:Int)<↑M.length)/\([]:List Rat).length+(M.getD (↑x:Int).toNat []).length<=aB /\
 (aA x fun (t:Nat)=>M.getD t []).length+[[].append (M.getD (↑x:Int).toNat [])].length<=aB/\ax ((↑x:Int)+1)/\∃(x':Nat),((M=M/\(↑x:Int) +
 (1:Int)=(↑x':Int))/\(aA x fun (t:Nat)=>M.getD t []).append [[].append (M.getD (↑x:Int).toNat [])]=aA x' fun (t:Nat)=>M.getD t [])/\x'<=M.length /\
 M.length-x'<M.length-x else ∃(x0:Nat),((M=M/\(0:Int)=(↑(nx M x0):Int)/\(0:Int)=(↑x0:Int))/\(aA x fun (t:Nat)=>M.getD t [])=stM M x0 /\
 ldM M x0=[])/\x0<=al M/\∀(x:Nat),let u9:=(↑(nx M x):Int);x<=al M->((0:Int)<=(0:Int)/\(0:Int)<(↑M.length:Int))/\((M.getD (Int.toNat (0
 : Int)) []).length<=aB->bif decide ((↑x:Int)<(↑(M.getD (Int.toNat (0:Int)) []).length:Int)) then (stM M x).length<=aB->bif decide (u9<(↑(stM M x).length :
 Int)) then ∃(x0b:Nat×Nat),((M=M/\u9=(↑(nx M x0b.2):Int)/\(↑x:Int)=↑x0b.2/\u9=(↑x0b.1:Int))/\stM M x=stM M x0b.2/\ldM M x=ldM M
 x0b.2)/\(x0b.2=x0b.2/\x0b.2<al M/\nx M x0b.2<=x0b.1/\x0b.1<=M.length/\pvR M x0b.2=pivN (L5 M x0b.2).fst x0b.2 x0b.1 (M.length-x0b.1))/\∀(y1:Nat ×
 Nat),y1.2=x0b.2/\y1.2<al M/\nx M y1.2<=y1.1/\y1.1<=M.length/\pvR M y1.2=pivN (L5 M y1.2).fst y1.2 y1.1 (M.length-y1.1)->(stM M y1.2).length<=aB ->
 bif decide ((↑y1.1:Int)<↑(stM M y1.2).length) then (0<=(↑y1.1:Int)/\(↑y1.1:Int)<↑(stM M y1.2).length)/\(↑y1.1:Int).toNat<(stM M
 y1.2).length/\(0<=(↑y1.2:Int)/\(↑y1.2:Int)<↑((stM M y1.2).getD (↑y1.1:Int).toNat []).length)/\bif decide ((((stM M y1.2).getD (↑y1.1 :
 Int).toNat []).getD (↑y1.2:Int).toNat 0).num.sign=0) then ax ((↑y1.1:Int)+1)/\∃(x'b:Nat×Nat),((M=M/\(↑(nx M y1.2):Int) =
 (↑(nx M x'b.2):Int)/\(↑y1.2:Int)=↑x'b.2/\(↑y1.1:Int)+1=↑x'b.1)/\stM M y1.2=stM M x'b.2/\ldM M y1.2=ldM M x'b.2)/\(x'b.2 =
 x0b.2/\x'b.2<al M/\nx M x'b.2<=x'b.1/\x'b.1<=M.length/\pvR M x'b.2=pivN (L5 M x'b.2).fst x'b.2 x'b.1 (M.length-x'b.1))/\M.length-x'b.1<M.length -
 y1.1 else ajA M y1 x else ajA M y1 x else rz (stM M x).length none (some u9) none/\cutL (stM M x) none (some u9)=aaf M/\ldM M x=abp M else
 rz (stM M x).length none (some u9) none/\cutL (stM M x) none (some u9)=aaf M/\ldM M x=abp M)
theorem anM (M:LM):aw LY1 [] (an5 M) Tryz.f95 (T2 (.k (.list (.list .rq)) (aaf M)) (.k (.list (.int .i64)) (abp M))) [.k (.list (.list .rq)) M]=am4 M:=by kernel_rfl
theorem anN (M:LM) (hg:aj M=true/\acu M):am4 M:=by
 obtain ⟨hR,hg⟩:=hg;obtain ⟨m1,m2,m3⟩:=ba hR;obtain ⟨s,s1,s2,s3⟩:=id hg;have hmL:=adu s1 s3;have stL:∀c,(stM M c).length=M.length:=fun c=>mkM_len ..;have swL:∀c,(swM M c).length=M.length:=fun c=>mkM_len ..;have elL:∀c i,(elM M c i).length=M.length:=fun c i=>mkM_len ..;have stW:∀c {i},i<M.length->(stM M c).getD i []=aA (al M) ((L5 M c).1 i):=fun c {i} hi=>na hi;have elW:∀c t {i},i<M.length->(elM M c t).getD i []=aA (al M) (elT M c t i):=fun c t {i} hi=>na hi;have fin:∀c,c<=al M->(¬c<al M\/¬nx M c<M.length)->rz (stM M c).length none (some ((nx M c:Nat):Int)) none/\cutL (stM M c) none (some ((nx M c:Nat):Int))=aaf M/\ldM M c=abp M:=fun c hc h=>by
  have ht:=ahk M c;have e:L5 M c=L5 M (al M):=by
   rcases h with h | h
   ·rw [show c=al M by omega]
   ·have h5:=an4 (n:=M.length) (F:=el M) (c:=c) (by show nx M c=M.length;omega) (al M-c);rw [show c+(al M-c)=al M by omega] at h5;exact h5.symm
  refine ⟨⟨by omega,by rw [stL];omega⟩,?_,?_⟩
  ·show (aG M.length (al M) (L5 M c).1).take (L5 M c).2.length=_;rw [e];exact ahw (acG _ _ _)
  ·show K5 (L5 M c).2=_;rw [e];rfl
 unfold am4;refine ⟨0,⟨⟨rfl,rfl⟩,rfl⟩,ia _,fun i hi hL=>aH (fun h=>?_) fun h=>?_⟩
 ·have cw:i<M.length:=by omega
  have e:=m3 i cw;refine ⟨idx h,by show 0+(M.getD i []).length<=aB;unfold aB;omega,ky cw hL,nQ cw hL,i+1,⟨⟨rfl,rfl⟩,eD rfl⟩,by omega,by omega⟩
 have e0:i=M.length:=by omega
 subst e0;refine ⟨0,⟨⟨rfl,rfl,rfl⟩,bE fun t ht=>vt 0 (m3 t ht) fun j _=>rfl,rfl⟩,ia _,fun c hc=>⟨⟨by omega,by omega⟩,fun _=>aH (fun h1 hL1=>aH (fun h2=>?_) fun h2=>fin c hc (.inr (by rw [stL] at h2;omega))) fun h1=>fin c hc (.inl fun h3=>h1 (G7.2 h3))⟩⟩;have j7:c<al M:=G7.1 h1;have Dr:nx M c<M.length:=by rw [stL] at h2;omega
 refine ⟨(nx M c,c),⟨⟨rfl,rfl,rfl,rfl⟩,rfl,rfl⟩,⟨rfl,j7,dz _,by show nx M c<=_;omega,rfl⟩,fun ⟨p,c2⟩ ⟨e,_,h3,h4,h5⟩ n5=>?_⟩;dsimp only at e h3 h4 h5 ⊢;subst e;have key:p=pvR M c2->ajA M (p,c2) c2:=fun hp=>by
  subst hp;have hle:pvR M c2<=nx M c2+(M.length-nx M c2):=(acn _ _ _ _).2;unfold ajA;refine fun _=>⟨c2,⟨⟨rfl,rfl,rfl,rfl,by rw [stL]⟩,rfl,rfl⟩,⟨rfl,j7,Dr⟩,fun c3 ⟨e,_,_⟩=>?_⟩
  subst e;refine aH (fun h8=>?_) fun h8=>?_
  ·have e9:L5 M (c3+1)=L5 M c3:=ahh (by omega);exact ⟨by unfold ax;omega,c3+1,⟨⟨rfl,by unfold nx;rw [e9],rfl⟩,by unfold stM;rw [e9],by unfold ldM;rw [e9]⟩,j7,by omega⟩
  have hpv:pvR M c3<M.length:=by omega
  have cs:=akX hg j7 hpv;have swW:∀{i},i<M.length->(swM M c3).getD i []=aA (al M) (swR M c3 i):=fun {i} hi=>na hi;have it:(0:Int)<=((nx M c3:Nat):Int)/\((nx M c3:Nat):Int)<((M.length:Nat):Int):=by omega
  have ip:(0:Int)<=((pvR M c3:Nat):Int)/\((pvR M c3:Nat):Int)<((M.length:Nat):Int):=by omega
  have eW:=stW c3 hpv;have eT:=stW c3 Dr;rw [tU,stL];refine ⟨ip,hpv,it,Dr,it,Dr,ip,hpv,c3,⟨⟨rfl,rfl,rfl⟩,?_,rfl⟩,⟨rfl,j7,hpv⟩,fun c4 ⟨e,_,_⟩=>?_⟩
  ·show ((stM M c3).set (nx M c3) ((stM M c3).getD (pvR M c3) [])).set (pvR M c3) ((stM M c3).getD (nx M c3) [])=_;rw [eW,eT];unfold stM swM;rw [alm Dr,alm hpv];refine jn fun i j _ _=>?_;unfold swR dk;by_cases a1:i=pvR M c3
   ·rw [gU a1];by_cases a2:i=nx M c3
    ·rw [gU a2, <- a1, <- a2]
    ·rw [fh a2,gU a1]
   ·rw [fh a1];by_cases a2:i=nx M c3
    ·rw [gU a2,gU a2]
    ·rw [fh a2,fh a2,fh a1]
  subst e;have rw1:(swM M c4).getD ((nx M c4:Nat):Int).toNat []=aA (al M) (swR M c4 (nx M c4)):=swW Dr;have ce:(aA (al M) (swR M c4 (nx M c4))).getD ((c4:Nat):Int).toNat 0=swR M c4 (nx M c4) c4:=fW j7 0;rw [swL,rw1,ce,mX];refine ⟨it,Dr,by unfold ax;omega,it,Dr,⟨by omega,by omega⟩,⟨Sq.int (n:=1) (Sm.one.le BQ1) BQ1,cs.sw _ _,cs.ne⟩,⟨SL.mk (fun _ _=>cs.sw _ _) BQ1,cs.k⟩,it,Dr,c4,⟨⟨rfl,rfl,rfl⟩,?_,rfl⟩,⟨rfl,j7,hpv⟩,fun c5 ⟨e,_,_⟩=>?_⟩
  ·rw [bE fun j hj=>by rw [fW hj]];unfold swM scM;refine (alm Dr).trans (jn fun i j _ _=>?_);unfold scR wa;by_cases a:i=nx M c4
   ·rw [gU a,gU a,a];rfl
   ·rw [fh a,fh a]
  subst e;refine ⟨(0,c5),⟨⟨rfl,rfl,rfl,rfl⟩,jn fun i j _ _=>(fh fun e=>sA _ e.2).symm,rfl⟩,⟨rfl,j7,hpv,ia _⟩,fun ⟨i,c6⟩ ⟨e,_,_,hi⟩ hL5=>?_⟩;dsimp only at e hi ⊢;subst e;rw [elL] at hL5 ⊢;refine aH (fun h9=>dP (fun D4=>?_) fun D4=>?_) fun h9=>?_
  ·have cw:i<M.length:=by omega
   have ay:i≠nx M c6:=fun e=>D4 (by rw [e]);have r1:(elM M c6 i).getD ((i:Nat):Int).toNat []=aA (al M) (elT M c6 i i):=elW c6 i cw;have r2:(elM M c6 i).getD ((nx M c6:Nat):Int).toNat []=aA (al M) (elT M c6 i (nx M c6)):=elW c6 i Dr;have e1:(aA (al M) (elT M c6 i i)).getD ((c6:Nat):Int).toNat 0=elT M c6 i i c6:=fW j7 0;have v1:∀j',elT M c6 i i j'=scR M c6 i j':=fun j'=>fh fun e=>CV _ e.2;have v2:∀j',elT M c6 i (nx M c6) j'=scR M c6 (nx M c6) j':=fun j'=>fh fun e=>e.1 rfl;have ii:(0:Int)<=((i:Nat):Int)/\((i:Nat):Int)<((M.length:Nat):Int):=by omega
   rw [r1,r2,e1,mX,mX];refine ⟨ii,cw,it,Dr,ii,cw,⟨by omega,by omega⟩,⟨dz _,SL.mk (fun _ _=>cs.el _ _ _) BQ1,SL.mk (fun _ _=>cs.el _ _ _) BQ1,cs.el _ _ _,fun j'=>?_⟩,ii,cw,nQ cw hL5,(i+1,c6),⟨⟨rfl,rfl,rfl,rfl⟩,?_,rfl⟩,⟨rfl,j7,hpv,cw⟩,by show _-(i+1)<_-i;omega⟩
   ·rcases cM j' (al M) with sH | sH
    ·rw [fW sH,v1,v2];exact cs.pr _ _ ay
    ·rw [ss sH,Rat.mul_zero];exact Sq.zero _ BQ1
   ·rw [bE fun j hj=>by rw [fW hj,fW hj,v1,v1,v2]];unfold elM;refine (alm cw).trans (jn fun i' j' _ _=>?_);by_cases a:i'=i
    ·subst a;rw [gU rfl];exact (gU ⟨ay,AA _⟩).symm
    ·rw [fh a];unfold elT;by_cases e3:i'≠nx M c6/\i'<i
     ·rw [gU e3,gU ⟨e3.1,by omega⟩]
     ·rw [fh e3,fh fun e=>e3 ⟨e.1,by omega⟩]
  ·have cw:i<M.length:=by omega
   refine ⟨nQ cw hL5,(i+1,c6),⟨⟨rfl,rfl,rfl,rfl⟩,jn fun i' j' _ _=>?_,rfl⟩,⟨rfl,j7,hpv,cw⟩,by show _-(i+1)<_-i;omega⟩;unfold elT;by_cases e3:i'≠nx M c6/\i'<i
   ·rw [gU e3,gU ⟨e3.1,by omega⟩]
   ·rw [fh e3,fh fun e=>e3 ⟨e.1,by have a1:i'≠nx M c6:=e.1;have a2:i'<i+1:=e.2;omega⟩]
  ·have eS:=aiy hpv;have eLd:(ldM M c6).length=nx M c6:=adq _;refine ⟨by rw [eLd];simp only [xY,Gq];omega,nQ Dr hL5,by unfold ax;omega,c6+1,⟨⟨rfl,?_,rfl⟩,jn fun i' j' OK _=>?_,?_⟩,j7,by omega⟩
   ·unfold nx;rw [eS,iR];rfl
   ·rw [eS];show elT M c6 i i' j'=abA (scR M c6) (nx M c6) c6 i' j';unfold elT abA;by_cases e3:i'=nx M c6
    ·rw [fh fun e=>e.1 e3,gU e3]
    ·rw [gU ⟨e3,by omega⟩,fh e3]
   ·unfold ldM;rw [eS];exact (ahH _ _).symm
 rw [stL];have row:p<M.length->(stM M c2).getD ((p:Nat):Int).toNat []=aA (al M) ((L5 M c2).1 p):=fun h=>stW c2 h;refine aH (fun h6=>?_) fun h6=>key (by rw [h5,show M.length-p=0 by omega,pivN]);have hp:p<M.length:=by omega
 have ce:(aA (al M) ((L5 M c2).1 p)).getD ((c2:Nat):Int).toNat 0=(L5 M c2).1 p c2:=fW j7 0;rw [row hp,ce,mX];refine ⟨by omega,hp,⟨by omega,by omega⟩,aH (fun h7=>?_) fun h7=>key ?_⟩
 ·exact ⟨by unfold ax;rw [stL] at n5;unfold aB at n5;omega,(p+1,c2),⟨⟨rfl,rfl,rfl,rfl⟩,rfl,rfl⟩,⟨rfl,j7,by show nx M c2<=p+1;omega,hp,by rw [h5,show M.length-p=(M.length-(p+1))+1 by omega,pivN,gU (sign_zero.1 h7)]⟩,by show _-(p+1)<_-p;omega⟩
 ·rw [h5,show M.length-p=(M.length-(p+1))+1 by omega,pivN,fh fun e=>h7 (sign_zero.2 e)]
theorem alC:ah (cfg []) am3:=cf ao4 bp Tryz.func95 (by kernel_rfl) fun args g r hn hc hg hf=>by
 replace hc:frReduce args=some (g,r,hn):=hc;unfold frReduce at hc;split at hc
 ·obtain ⟨rfl,rfl,rfl⟩:=aN hc;cases aY (anM _) (anN _ hg);exact ⟨rfl,by kernel_rfl,_,by assumption⟩
 ·cases hc
def shF (c:Nat) (F:Nat->Nat->Rat):Nat->Nat->Rat:=fun a b=>F (a+c) (b+c)
def acb (n:Nat) (F0:Nat->Nat->Rat) (c:Nat) (d:Rat) (F:Nat->Nat->Rat):Prop:=d*detF (n-c) (shF c F)=detF n F0
def wc (A:Nat->Nat->Int):Nat->Nat->Rat:=fun i j=>(A i j:Rat)
def ab4 (k:Nat) (r:Nat->Nat) (a:Nat):Nat:=if a<k then a else r (a-k)
structure abM (n:Nat) (A0:Nat->Nat->Int) (k:Nat) (last:Int) (neg:Bool) (W:Nat->Nat->Int):Prop where
 ne:last≠0
 of:∃A:Nat->Nat->Int,(cond neg (-1) 1:Rat)*detF n (wc A)=detF n (wc A0) /\
  ∀m r s,(∀a,a<m->k<=r a/\r a<n/\k<=s a/\s a<n)->detF (k+m) (fun a b=>wc A (ab4 k r a) (ab4 k s b))=(last:Rat)*detF m (fun a b=>wc W (r a) (s b)/(last:Rat))
def SzQ (M:LM) (k:Nat) (x:Rat):Prop:=∀s,1<=s->SM s M->Sq (s*5^k) x
structure DI (M:LM) (k:Nat) (d:Rat) (F:Nat->Nat->Rat):Prop where
 det:acb M.length (el M) k d F
 szF:∀i j,SzQ M k (F i j)
 szD:SzQ M k d
noncomputable def LY6:List az:=am3::XS::[]
theorem aqd:bd LY6:=⟨alC,Az,trivial⟩
def aoX:CF
 | [.k (.list (.list .rq)) M]=>some (some (aI M=true/\M.length<=300/\Inv2 M),T2 (.k (.list (.list .rq)) (bif aeF M then aG M.length M.length (abW M.length (el M)) else [])) (.k .bool (aeF M)),[])
 | _=>none
def apm:az:=⟨47,false,aoX⟩
def apz (M:LM):bk:=⟨fun key_=>match key_ with | 6=>11 | _=>0,fun key_=>match key_ with
 | 4=>some (⟨Nat,fun i=>[(0,.k (.list (.list .rq)) M),(4,.own 4 0 1),(5,.k (.list (.list .rq)) (aG M.length M.length iP)),(6,.k (.int .i64) ((i:Nat):Int))],
 fun i=>[(4,.arr 25 (.list .rq) (aA i fun t=>M.getD t []++(aG M.length M.length iP).getD t []))],fun _ i=>i<=M.length,fun i=>M.length-i⟩)
 | 13=>some (⟨Nat,fun i=>[(7,.k (.list (.list .rq)) (aaf (abm M))),(9,.k (.int .i64) ((M.length:Nat):Int)),(10,.own 10 0 1),(11,.k (.int .i64) ((i:Nat):Int))],
 fun i=>[(10,.arr 25 (.list .rq) (aA i fun t=>aA M.length (abW M.length (el M) t)))],fun _ i=>i<=M.length/\aeF M=true,fun i=>M.length-i⟩) | _=>none,nR,nU⟩
def aoY (M:LM):Prop:=
 let t1:=aG M.length M.length iP;
 M.length<=aB->∃(x0:Nat),((M=M/\(bif decide ((1:Int)<=(↑M.length:Int)/\(↑M.length:Int)<=(300:Int)) then aG (↑M.length:Int).toNat (↑M.length :
 Int).toNat fun (i j:Nat)=>if j=i then (1:Rat) else (0:Rat) else [])=aG M.length M.length iP/\(0:Int)=(↑x0:Int))/\(aA x0 fun (t:Nat)=>M.getD t
 []++t1.getD t [])=[])/\x0<=M.length/\∀(x:Nat),x<=M.length->M.length<=aB->bif decide ((↑x:Int)<↑M.length) then (0<=(↑x:Int)/\(↑x :
 Int)<(↑M.length:Int))/\((0:Nat)<(M.getD (↑x:Int).toNat []).length/\([]:List Rat).length+(M.getD (↑x:Int).toNat []).length<=aB)/\(0<=(↑x :
 Int)/\(↑x:Int)<↑t1.length)/\(([]:List Rat).append (M.getD (↑x:Int).toNat [])).length+(t1.getD (↑x:Int).toNat []).length<=aB/\(aA x fun (t:Nat)
 =>M.getD t []++t1.getD t []).length+[(([]:List Rat).append (M.getD (↑x:Int).toNat [])).append (t1.getD (↑x:Int).toNat [])].length<=aB/\ax ((↑x:Int)+(1
 : Int))/\∃(x':Nat),((M=M/\aG M.length M.length iP=aG M.length M.length iP/\(↑x:Int)+1=↑x')/\(aA x fun (t:Nat)=>M.getD t [] ++
 t1.getD t []).append [(([]:List Rat).append (M.getD (↑x:Int).toNat [])).append (t1.getD (↑x:Int).toNat [])]=aA x' fun (t:Nat)=>M.getD t []++t1.getD t []) /\
 x'<=M.length/\M.length-x'<M.length-x else (aj (aA x fun (t:Nat)=>M.getD t []++t1.getD t [])=true/\acu (aA x fun (t:Nat)=>M.getD t [] ++
 t1.getD t []))/\(M.length<=aB->(abp (aA x fun (t:Nat)=>M.getD t []++t1.getD t [])).length<=(9223372036854775807:Nat)->bif decide ((↑(abp (aA x fun
 (t:Nat)=>M.getD t []++t1.getD t [])).length:Int)<↑M.length) then (bif aeF M then aG M.length M.length (abW M.length (el M)) else [])=[]/\false =
 aeF M else ax ((↑M.length:Int)-(1:Int))/\(0<=(↑M.length:Int)-(1:Int)/\(↑M.length:Int)-(1:Int)<(↑(abp (aA x fun (t:Nat)=>M.getD
 t []++t1.getD t [])).length:Int))/\ax ((↑M.length:Int)-(1:Int))/\bif !decide ((abp (aA x fun (t:Nat)=>M.getD t []++t1.getD t [])).getD
 ((↑M.length:Int)-(1:Int)).toNat (0:Int)=(↑M.length:Int)-(1:Int)) then (bif aeF M then aG M.length M.length (abW M.length (el M)) else [])=[]/\false
 = aeF M else ∃(x0:Nat),((aaf (aA x fun (t:Nat)=>M.getD t []++t1.getD t [])=aaf (abm M)/\(↑M.length:Int)=↑M.length/\(0:Int)=(↑x0
 : Int))/\(aA x0 fun (t:Nat)=>aA M.length (abW M.length (el M) t))=[])/\(x0<=M.length/\aeF M=true)/\∀(x:Nat),
 let u2:=(aaf (abm M)).getD (↑x:Int).toNat [];let u1:=aA x fun (t:Nat)=>aA M.length (abW M.length (el M) t);x<=M.length/\aeF M=true->bif decide
 ((↑x:Int)<↑M.length) then (0<=(↑x:Int)/\(↑x:Int)<↑(aaf (abm M)).length)/\rz u2.length (some (↑M.length:Int)) none none /\
 u1.length+[cutL u2 (some (↑M.length:Int)) none].length<=aB/\ax ((↑x:Int)+1)/\∃(x':Nat),((aaf (abm M)=aaf (abm M)/\(↑M.length :
 Int)=(↑M.length:Int)/\(↑x:Int)+1=↑x')/\u1.append [cutL u2 (some (↑M.length:Int)) none]=aA x' fun (t:Nat)=>aA M.length (abW M.length
 (el M) t))/\(x'<=M.length/\aeF M=true)/\M.length-x'<M.length-x else (u1=bif aeF M then aG M.length M.length (abW M.length (el M)) else [])/\true=aeF
 M)
theorem apt (M:LM):aw LY6 [] (apz M) Tryz.f47 (T2 (.k (.list (.list .rq)) (bif aeF M then aG M.length M.length (abW M.length (el M)) else [])) (.k .bool (aeF M))) [.k (.list (.list .rq)) M]=aoY M:=by kernel_rfl
theorem apu (M:LM) (hg:aI M=true/\M.length<=300/\Inv2 M) (hf:cJ [.k (.list (.list .rq)) M]):aoY M:=by
 obtain ⟨hS,av8,hg⟩:=hg;obtain ⟨hR,m1,m2,m3⟩:=iQ hS;obtain ⟨s,s1,s2,s3⟩:=hg;have hJ:=ags hS;have uI:acu (abm M):=⟨s,s1,aiI s1 s2,by show s*5^abY (abm M)<=BQ;rw [hJ.abY];exact s3⟩
 obtain ⟨r1,r2⟩:=agq hJ.len hJ.abY hJ.el;have hf:=acz M.length (el M);rw [<-r1] at hf;have key:=agT m1 (el M);rw [<-r1] at key;have eO:(abp (abm M)).length=M.length:=(adq _).trans hf;have eRL:(aaf (abm M)).length=M.length:=(mkM_len ..).trans hf;have e1:(abp (abm M)).getD (M.length-1) 0=_:=afF (show M.length-1<(ab2 (abm M)).2.length by omega);have e2:(((M.length:Nat):Int)-1).toNat=M.length-1:=by omega
 have eJ:(aA M.length fun t=>M.getD t []++(aG M.length M.length iP).getD t [])=abm M:=rfl;have tail:∀f:Nat->Rat,cutL (aA (M.length+M.length) f) (some ((M.length:Nat):Int)) none=aA M.length fun j=>f (M.length+j):=fun f=>
  vt 0 (by show ((aA _ f).drop M.length).length=_;rw [Gf,mX];omega) fun i hi=>by show ((aA _ f).drop M.length).getD i 0=_;rw [kY,fW (by omega)]
 unfold aoY;dsimp only;refine fun hL0=>⟨0,⟨⟨rfl,?_,rfl⟩,rfl⟩,ia _,fun i hi hL=>aH (fun h=>?_) fun h=>?_⟩
 ·rw [kJ (by omega)];exact jn fun i j _ _=>by
   unfold iP;by_cases e:j=i
   ·rw [gU e,gU e.symm]
   ·rw [fh e,fh fun k=>e k.symm]
 ·have cw:i<M.length:=by omega
  have e:=m3 i cw;have e5:((aG M.length M.length iP).getD ((i:Nat):Int).toNat []).length=M.length:=by show ((aG M.length M.length iP).getD i []).length=_;rw [na cw,mX]
  rw [e5,mkM_len];exact ⟨idx h,⟨by show 0<(M.getD i []).length;omega,by show 0+(M.getD i []).length<=aB;unfold aB;omega⟩,⟨by omega,by omega⟩,by show (M.getD i []).length+M.length<=aB;unfold aB;omega,ky cw hL,nQ cw hL,i+1,⟨⟨rfl,rfl,rfl⟩,eD rfl⟩,by omega,by omega⟩
 have e0:i=M.length:=by omega
 subst e0;rw [eJ,eO,e2,e1];refine ⟨⟨hJ.right,uI⟩,fun _ _=>aH (fun h=>by omega) fun _=>⟨by unfold ax;omega,⟨by omega,by omega⟩,by unfold ax;omega,dP (fun h3=>?_) fun h3=>?_⟩⟩
 ·have hB:aeF M=false:=pj fun h4=>h3 (by rw [key.2 h4];omega);rw [hB];exact ⟨rfl,rfl⟩
 have hB:aeF M=true:=kJ (key.1 (by omega));refine ⟨0,⟨⟨rfl,rfl,rfl⟩,rfl⟩,⟨ia _,hB⟩,fun i ⟨hi,_⟩=>aH (fun h4=>?_) fun h4=>?_⟩
 ·have cw:i<M.length:=by omega
  have amG:(aaf (abm M)).getD ((i:Nat):Int).toNat []=aA (M.length+M.length) ((ab2 (abm M)).1 i):=by show (aaf (abm M)).getD i []=_;unfold aaf;rw [na (by omega),hJ.abY]
  rw [amG,tail,eRL,mX];exact ⟨⟨by omega,by omega⟩,⟨by omega,by omega⟩,ky cw hL0,by unfold ax;omega,i+1,⟨⟨rfl,rfl,rfl⟩,eD (bE fun j hj=>r2 i _ cw (by omega))⟩,⟨cw,hB⟩,by omega⟩
 ·have e:i=M.length:=by omega
  subst e;rw [hB];exact ⟨rfl,rfl⟩
theorem apv:ah (cfg []) apm:=cf aqd bp Tryz.func47 (by kernel_rfl) fun args g r hn hc hg hf=>by
 replace hc:aoX args=some (g,r,hn):=hc;unfold aoX at hc;split at hc
 ·obtain ⟨rfl,rfl,rfl⟩:=aN hc;cases aY (apt _) (apu _ hg hf);exact ⟨rfl,by kernel_rfl,_,by assumption⟩
 ·cases hc
def frMulN:List AV->Option (Option Prop×AV×List Ob)
 | [.k (.list (.list .rq)) M,.k (.list (.list .rq)) N]=>some (some (bF M N=true/\fK M N),T2 (.own 0 0 1) (.k (.int .i64) (0:Int)),[.bc 25 33 .rq (aA M.length fun t=>t) (mulM M N)])
 | _=>none
def ayy:az:=⟨44,false,frMulN⟩
def ayP (M N:List (List Rat)):bk:=⟨fun key_=>match key_ with | 11=>8 | _=>0,fun key_=>match key_ with
 | 5=>some (⟨Nat,fun i=>[(0,.k (.list (.list .rq)) M),(1,.k (.list (.list .rq)) N),(6,.own 6 0 1),(7,.k (.int .i64) ((i:Nat):Int))],
 fun i=>[(6,.bc 25 33 .rq (aA i fun t=>t) (aA i fun i=>aA (al N) fun j=>sumN (fun k=>el M i k*el N k j) (M.getD i []).length))],fun _ i=>i<=M.length,fun i=>M.length-i⟩)
 | 9=>some (⟨Nat×Nat,fun p=>[(0,.k (.list (.list .rq)) M),(1,.k (.list (.list .rq)) N),(6,.own 6 0 1),(7,.k (.int .i64) ((p.1:Nat):Int)),(8,.own 8 0 3),(9,.k (.int .i64) ((p.2:Nat):Int))],
 fun p=>[(6,.bc 25 33 .rq (aA p.1 fun t=>t) (aA p.1 fun i=>aA (al N) fun j=>sumN (fun k=>el M i k*el N k j) (M.getD i []).length)),(8,.arr 33 .rq (aA p.2 fun j=>sumN (fun k=>el M p.1 k*el N k j) (M.getD p.1 []).length))],
 fun q p=>p.1=q.1/\p.1<M.length/\p.2<=al N,fun p=>al N-p.2⟩) | _=>none,nR,nU⟩
def awW (M N:List (List Rat)):Prop:=bif !aj M then (5:Int)=(0:Int)/\(aA M.length fun (t:Nat)=>t)=[]/\mulM M N=[] else bif !aj N then (5:Int)=(0:Int)/\(aA M.length fun (t :
 Nat)=>t)=[]/\mulM M N=[] else ((0:Int)<=(0:Int)/\(0:Int)<(↑M.length:Int))/\((M.getD (Int.toNat (0:Int)) []).length<=aB->N.length<=aB->bif
 !decide ((↑(M.getD (Int.toNat (0:Int)) []).length:Int)=(↑N.length:Int)) then (5:Int)=(0:Int)/\(aA M.length fun (t:Nat)=>t)=[]/\mulM M N=[] else ∃
 (x0:Nat),((M=M/\N=N/\(0:Int)=(↑x0:Int))/\(aA x0 fun (t:Nat)=>t)=[]/\(aA x0 fun (i:Nat)=>aA (al N) fun (j:Nat)=>sumN (fun (k:Nat)=>
 el M i k*el N k j) (M.getD i []).length)=[])/\x0<=M.length/\∀(x:Nat),
 let u3:=aA x fun (i:Nat)=>aA (al N) fun (j:Nat)=>sumN (fun (k:Nat)=>el M i k*el N k j) (M.getD i []).length;x<=M.length->M.length<=aB->bif
 decide ((↑x:Int)<↑M.length) then ∃(x0b:Nat×Nat),((M=M/\N=N/\(↑x:Int)=↑x0b.1/\(0:Int)=(↑x0b.2:Int))/\(((aA x fun (t:Nat)=>
 t)=aA x0b.1 fun (t:Nat)=>t)/\u3=aA x0b.1 fun (i:Nat)=>aA (al N) fun (j:Nat)=>sumN (fun (k:Nat)=>el M i k*el N k j) (M.getD i []).length) /\
 (aA x0b.2 fun (j:Nat)=>sumN (fun (k:Nat)=>el M x0b.1 k*el N k j) (M.getD x0b.1 []).length)=[])/\(x0b.1=x0b.1/\x0b.1<M.length/\x0b.2<=al N)/\∀(y1
 : Nat×Nat),let u5:=M.getD (↑y1.1:Int).toNat [];let u4:=aA y1.2 fun (j:Nat)=>sumN (fun (k:Nat)=>el M y1.1 k*el N k j) (M.getD y1.1 []).length;
 let u2:=aA N.length fun (i:Nat)=>el N i y1.2;
 let u1:=aA y1.1 fun (i:Nat)=>aA (al N) fun (j:Nat)=>sumN (fun (k:Nat)=>el M i k*el N k j) (M.getD i []).length;y1.1=x0b.1/\y1.1<M.length/\y1.2
 <= al N->((0:Int)<=(0:Int)/\(0:Int)<(↑N.length:Int))/\((N.getD (Int.toNat (0:Int)) []).length<=aB->bif decide ((↑y1.2:Int)<(↑(N.getD (Int.toNat
 (0:Int)) []).length:Int)) then (0<=(↑y1.1:Int)/\(↑y1.1:Int)<↑M.length)/\(∀(i:Nat),i<N.length->y1.2<(N.getD i []).length) /\
 (u5.length<=u2.length/\lM u5 u2)/\u4.length+[dW u5 u2].length<=aB/\ax ((↑y1.2:Int)+1)/\∃(x':Nat×Nat),((M=M/\N=N/\(↑y1.1:Int) =
 (↑x'.1:Int)/\(↑y1.2:Int)+1=↑x'.2)/\(((aA y1.1 fun (t:Nat)=>t)=aA x'.1 fun (t:Nat)=>t)/\u1=aA x'.1 fun (i:Nat)=>aA (al N)
 fun (j:Nat)=>sumN (fun (k:Nat)=>el M i k*el N k j) (M.getD i []).length)/\u4.append [dW u5 u2]=aA x'.2 fun (j:Nat)=>sumN (fun (k:Nat)=>el M x'.1 k
 * el N k j) (M.getD x'.1 []).length)/\(x'.1=x0b.1/\x'.1<M.length/\x'.2<=al N)/\al N-x'.2<al N-y1.2 else ((aA y1.1 fun (t:Nat)=>t).length+(1
 : Nat)<=aB/\(u1.length)<(u1++[aA y1.2 fun (j:Nat)=>sumN (fun (k:Nat)=>el M y1.1 k*el N k j) (M.getD y1.1 []).length]).length)/\ax ((↑y1.1:Int)+(1
 : Int))/\∃(x'b:Nat),((M=M/\N=N/\(↑y1.1:Int)+1=↑x'b)/\((aA y1.1 fun (t:Nat)=>t)++[(u1.length)]=aA x'b fun (t:Nat)=>t)/\u1
 ++ [aA y1.2 fun (j:Nat)=>sumN (fun (k:Nat)=>el M y1.1 k*el N k j) (M.getD y1.1 []).length]=aA x'b fun (i:Nat)=>aA (al N) fun (j:Nat)=>sumN (fun
 (k:Nat)=>el M i k*el N k j) (M.getD i []).length)/\x'b<=M.length/\M.length-x'b<M.length-x) else (0:Int)=(0:Int)/\((aA x fun (t:Nat)=>t)=aA
 M.length fun (t:Nat)=>t)/\u3=mulM M N)
theorem ax4 (M N:List (List Rat)):awp (cfg LD []) (ayP M N) Tryz.f44.ntmps (Tryz.f44.body.getD .skip) (jj Tryz.f44.results.toList (T2 (.own 0 0 1) (.k (.int .i64) (0:Int))) 6 (.bc 25 33 .rq (aA M.length fun t=>t) (mulM M N))) ⟨ap4 0 [.k (.list (.list .rq)) M,.k (.list (.list .rq)) N],[]⟩=awW M N:=by kernel_rfl
theorem ax5 (M N:List (List Rat)) (hg:bF M N=true/\fK M N):awW M N:=by
 obtain ⟨iF,hg⟩:=hg;obtain ⟨hM,hN,hc⟩:=CS iF;obtain ⟨m1,m2,m3⟩:=ba hM;obtain ⟨n1,n2,n3⟩:=ba hN;unfold awW;dsimp only;refine en (fun h=>by rw [hM] at h;cases h) fun _=>en (fun h=>by rw [hN] at h;cases h) fun _=>⟨⟨by omega,by omega⟩,fun _ _=>dP (fun h=>absurd (bX.2 hc) h) fun _=>⟨0,⟨⟨rfl,rfl,rfl⟩,rfl,rfl⟩,ia _,fun i hi hL=>aH (fun h'=>⟨(i,0),⟨⟨rfl,rfl,rfl,rfl⟩,⟨rfl,rfl⟩,rfl⟩,⟨rfl,by show i<_;omega,ia _⟩,fun ⟨a,b⟩ ⟨kv,ha,hb⟩=>?_⟩) fun h'=>?_⟩⟩
 ·dsimp only at kv ha hb ⊢;refine ⟨⟨by omega,by omega⟩,fun hR=>?_⟩;have hR:al N<=aB:=hR;have hl:(M.getD a []).length<=N.length:=by rw [m3 a ha,hc];exact dz _
  refine aH (fun h2=>?_) fun h2=>?_
  ·have kP:b<al N:=G7.1 h2;exact ⟨idn ha,fun j hj=>by rw [n3 j hj];exact kP,⟨by rw [mX];exact hl,hg.dot a b⟩,ky kP hR,nQ kP hR,(a,b+1),⟨⟨rfl,rfl,rfl,rfl⟩,⟨rfl,rfl⟩,eD (R3 hl)⟩,⟨kv,ha,by show b+1<=_;omega⟩,by show _-(b+1)<_-b;omega⟩
  ·have kP:¬b<al N:=fun e=>h2 (G7.2 e);have eb:b=al N:=by omega
   subst eb;refine ⟨⟨by rw [mX];omega,by simp⟩,nQ (by omega) hL,a+1,⟨⟨rfl,rfl,rfl⟩,by rw [mX];exact (tI a fun t=>t).symm,(tI a _).symm⟩,by omega,by omega⟩
 ·rw [show i=M.length by omega];exact ⟨rfl,rfl,rfl⟩
theorem ax6:ah (cfg []) ayy:=oY pN bp Tryz.func44 (by kernel_rfl) (by kernel_rfl) rfl fun args g r hn hc hg hf=>by
 replace hc:frMulN args=some (g,r,hn):=hc;unfold frMulN at hc;split at hc
 ·obtain ⟨rfl,rfl,rfl⟩:=aN hc;have hv:=ax5 _ _ hg
  cases aY (ax4 _ _) hv;exact ⟨by kernel_rfl,_,6,_,rfl,rfl,rfl,by assumption⟩
 ·cases hc
noncomputable def LU5:List az:=WW::Kv::ajN::Kx::xQ::ajK::GK::aot::[]
theorem ayC:bd LU5:=⟨Q7,Ai,ajy,Aj,mV,ajv,GO,aoj,trivial⟩
def frLineAt:List AV->Option (Option Prop×AV×List Ob)
 | [.agg (.cons (.k (.list .rq) W) (.cons (.k .rq B) .nil)),.k (.list .rq) x]=>some (some ((W.length<=3/\W.length=x.length)/\SL LB W/\Sq LB B/\SL 256 x),.k .rq (dW W x+B),[])
 | _=>none
def atw:az:=⟨23,false,frLineAt⟩
def awF (W:List Rat) ( B:Rat) (x:List Rat):bk:=⟨fun key_=>match key_ with | 1=>6 | _=>0,nL,nR,nU⟩
def avA (W:List Rat) ( B:Rat) (x:List Rat):Prop:=(W.length<=x.length/\lM W x)/\(Sq BQ (dW W x)/\Sq BQ B)/\dW W x+B=dW W x+B
theorem avL (W:List Rat) ( B:Rat) (x:List Rat):aw LU5 [] (awF W B x) Tryz.f23 (.k .rq (dW W x+B)) [.agg (.cons (.k (.list .rq) W) (.cons (.k .rq B) .nil)),.k (.list .rq) x]=avA W B x:=by kernel_rfl
theorem avM (W:List Rat) ( B:Rat) (x:List Rat) (hg:(W.length<=3/\W.length=x.length)/\SL LB W/\Sq LB B/\SL 256 x):avA W B x:=by obtain ⟨⟨h2,h3⟩,h4,h5,h6⟩:=hg;exact ⟨⟨by omega,LB,256,h4,h6,by have:=fi (LB+256+1) h2;unfold LB BQ at *;omega⟩,⟨(x4 h4 h6).le (by have:=fi (LB+256+1) h2;unfold LB BQ at *;omega),h5.le (by unfold LB BQ;omega)⟩,rfl⟩
theorem ara:ah (cfg []) atw:=cf ayC bp Tryz.func23 (by kernel_rfl) fun args g r hn hc hg hf=>by
 replace hc:frLineAt args=some (g,r,hn):=hc;unfold frLineAt at hc;split at hc
 ·obtain ⟨rfl,rfl,rfl⟩:=aN hc;cases aY (avL _ _ _) (avM _ _ _ hg);exact ⟨rfl,by kernel_rfl,_,by assumption⟩
 ·cases hc
noncomputable def LU6:List az:=atw::LU5
theorem avN:bd LU6:=⟨ara,ayC⟩
def frLineLoss:List AV->Option (Option Prop×AV×List Ob)
 | [.agg (.cons (.k (.list .rq) W) (.cons (.k .rq B) .nil)),.k (.list (.list .rq)) x,.k (.list .rq) y,.k .rq r]=>some (some (Trn x y/\Lin x W B/\Sq 256 r),.k .rq (agN x.length (al x) (el x) (yF y) r (lnF W B)),[])
 | _=>none
def as5:az:=⟨21,false,frLineLoss⟩
def avv (W:List Rat) ( B:Rat) (x:List (List Rat)) (y:List Rat) (r:Rat):bk:=⟨fun key_=>match key_ with | 1=>8 | 5=>12 | 6=>4 | _=>0,fun key_=>match key_ with
 | 3=>some (⟨Nat,fun i=>[(1,.k (.list (.list .rq)) x),(2,.k (.list .rq) y),(4,.pt 4 0 4 0 0),(8,.pt 8 0 3 0 0),(9,.pt 9 0 3 0 0),(10,.k (.int .i64) ((i:Nat):Int))],
 fun i=>[(4,.box 55 (.agg (.cons (.k (.list .rq) W) (.cons (.k .rq B) .nil)))),(8,.box 33 (.agg (.cons (.k .ri (0:Int)) (.cons (.k .rn (0:Nat)) .nil)))),(9,.box 33 (.k .rq (agN i (al x) (el x) (yF y) r (lnF W B))))],
 fun _ i=>i<=x.length,fun i=>x.length-i⟩) | _=>none,nR,nU⟩
def as6 (W:List Rat) ( B:Rat) (x:List (List Rat)) (y:List Rat) (r:Rat):Prop:=(W.length<=W.length/\lM W W)/\(Sq BQ r/\Sq BQ (dW W W))/\∃(x0:Nat),((x=x/\y=y/\(0:Int)=(↑x0:Int))/\(W=W/\B=B)/\((0:Int)=(0:Int)/\(0
 : Nat)=0)/\r*dW W W=agN x0 (al x) (el x) (yF y) r (lnF W B))/\x0<=x.length/\∀(y1:Nat),let u2:=x.getD (↑y1:Int).toNat [];
 let u1:=y.getD (↑y1:Int).toNat 0-(dW W u2+B);y1<=x.length->x.length<=aB->bif decide ((↑y1:Int)<↑x.length) then (0<=(↑y1 :
 Int)/\(↑y1:Int)<↑y.length)/\(0<=(↑y1:Int)/\(↑y1:Int)<↑x.length)/\((W.length<=(3:Nat)/\W.length=u2.length)/\SL LB W/\Sq LB B
 /\ SL (256:Nat) u2)/\(Sq BQ (y.getD (↑y1:Int).toNat 0)/\Sq BQ (dW W u2+B))/\(Sq BQ u1/\Sq BQ u1)/\(Sq BQ (agN y1 (al x) (el x) (yF y) r (lnF W B))
 /\ Sq BQ (u1*u1))/\ax ((↑y1:Int)+1)/\∃(x':Nat),((x=x/\y=y/\(↑y1:Int)+1=↑x')/\(W=W/\B=B)/\((0:Int)=(0:Int) /\
 (0:Nat)=0)/\agN y1 (al x) (el x) (yF y) r (lnF W B)+u1*u1=agN x' (al x) (el x) (yF y) r (lnF W B))/\x'<=x.length/\x.length-x'<x.length -
 y1 else agN y1 (al x) (el x) (yF y) r (lnF W B)=agN x.length (al x) (el x) (yF y) r (lnF W B)
theorem au8 (W:List Rat) ( B:Rat) (x:List (List Rat)) (y:List Rat) (r:Rat):aw LU6 [] (avv W B x y r) Tryz.f21 (.k .rq (agN x.length (al x) (el x) (yF y) r (lnF W B))) [.agg (.cons (.k (.list .rq) W) (.cons (.k .rq B) .nil)),.k (.list (.list .rq)) x,.k (.list .rq) y,.k .rq r]=as6 W B x y r:=by kernel_rfl
theorem au9 (W:List Rat) ( B:Rat) (x:List (List Rat)) (y:List Rat) (r:Rat) (hg:Trn x y/\Lin x W B/\Sq 256 r):as6 W B x y r:=by
 obtain ⟨hT,hL,hr⟩:=hg;obtain ⟨m1,m2,m3⟩:=hT.facts;have hw:=hT.w3;have hn:=hT.n16;have hl:=hT.len;have hW:=hL.len;have hB:(256:Nat)<=BQ:=by unfold BQ;omega
 have hD:lM W W:=⟨LB,LB,hL.sW,hL.sW,by have:=fi (LB+LB+1) (show W.length<=3 by omega);unfold LB BQ at *;omega⟩
 have dq:Sq BQ (dW W W):=(x4 hL.sW hL.sW).le (by have:=fi (LB+LB+1) (show W.length<=3 by omega);unfold LB BQ at *;omega);have e0:r*dW W W=agN 0 (al x) (el x) (yF y) r (lnF W B):=by show _=r*sumN (fun j=>lnF W B j*lnF W B j) (al x)+0;rw [Ms, <- hW];exact EX _ (uv fun j hj=>by unfold lnF;rw [gU hj])
 unfold as6;dsimp only;refine ⟨⟨dz _,hD⟩,⟨hr.le hB,dq⟩,0,⟨⟨rfl,rfl,rfl⟩,⟨rfl,rfl⟩,⟨rfl,rfl⟩,e0⟩,ia _,fun i hi hLx=>aH (fun h=>?_) fun h=>?_⟩
 ·have cw:i<x.length:=by omega
  rw [show ((i:Nat):Int).toNat=i from rfl,asU hW];exact ⟨⟨by omega,by omega⟩,⟨by omega,h⟩,⟨⟨by omega,by rw [m3 i cw];exact hW⟩,hL.sW,hL.sB,hT.sx i⟩,⟨(hT.Y i).le hB,(hL.at hT i).le (by unfold BQ;omega)⟩,⟨(hL.dev hT i).le (by unfold BQ;omega),(hL.dev hT i).le (by unfold BQ;omega)⟩,⟨(hL.los hT hr (by omega)).le (by unfold BQ;omega),((hL.dev hT i).mul (hL.dev hT i)).le (by unfold BQ;omega)⟩,by unfold ax;omega,i+1,⟨⟨rfl,rfl,rfl⟩,⟨rfl,rfl⟩,⟨rfl,rfl⟩,Ma ..⟩,by omega,by omega⟩
 ·rw [show i=x.length by omega]
theorem as7:ah (cfg []) as5:=cf avN bp Tryz.func21 (by kernel_rfl) fun args g r hn hc hg hf=>by
 replace hc:frLineLoss args=some (g,r,hn):=hc;unfold frLineLoss at hc;split at hc
 ·obtain ⟨rfl,rfl,rfl⟩:=aN hc;cases aY (au8 _ _ _ _ _) (au9 _ _ _ _ _ hg);exact ⟨rfl,by kernel_rfl,_,by assumption⟩
 ·cases hc
def ark:List AV->Option (Option Prop×AV×List Ob)
 | [.agg (.cons (.k (.list .rq) W) (.cons (.k .rq B) .nil)),.k (.list (.list .rq)) x,.k (.list .rq) y,.k .rq r]=>some (some (Trn x y/\Lin x W B/\Sq 256 r),T2 (.k (.list .rq) (aA (al x) (apx x.length (al x) (el x) (yF y) r (lnF W B)))) (.k .rq (apo x.length (al x) (el x) (yF y) (lnF W B))),[])
 | _=>none
def aro:az:=⟨19,false,ark⟩
def ava (W:List Rat) ( B:Rat) (x:List (List Rat)) (y:List Rat) (r:Rat):bk:=⟨fun key_=>match key_ with | 1=>5 | 6=>14 | 7=>7 | 9=>3 | _=>0,fun key_=>match key_ with
 | 4=>some (⟨Nat,fun i=>[(1,.k (.list (.list .rq)) x),(2,.k (.list .rq) y),(4,.pt 4 0 4 0 0),(9,.pt 9 0 3 0 0),(10,.k (.list .rq) (aA (al x) (apx i (al x) (el x) (yF y) r (lnF W B)))),(11,.pt 11 0 3 0 0),(12,.k (.int .i64) ((i:Nat):Int))],
 fun i=>[(4,.box 55 (.agg (.cons (.k (.list .rq) W) (.cons (.k .rq B) .nil)))),(9,.box 33 (.agg (.cons (.k .ri (0:Int)) (.cons (.k .rn (0:Nat)) .nil)))),(11,.box 33 (.k .rq (apo i (al x) (el x) (yF y) (lnF W B))))],
 fun _ i=>i<=x.length,fun i=>x.length-i⟩) | _=>none,nR,nU⟩
def arp (W:List Rat) ( B:Rat) (x:List (List Rat)) (y:List Rat) (r:Rat):Prop:=
 let t1:=(↑(-2:Int):Rat);
 ax (2:Int)/\(Sq BQ (↑(2:Int):Rat)/\Sq BQ r)/\(SL BQ W/\Sq BQ ((↑(2:Int):Rat)*r))/\ax (0:Int)/\∃(x0:Nat),((x=x/\y=y/\(aA W.length fun (j
 : Nat)=>W.getD j 0*((↑(2:Int):Rat)*r))=aA (al x) (apx x0 (al x) (el x) (yF y) r (lnF W B))/\(0:Int)=(↑x0:Int))/\(W=W/\B=B)/\((0
 : Int)=(0:Int)/\(0:Nat)=0)/\(↑(0:Int):Rat)=apo x0 (al x) (el x) (yF y) (lnF W B))/\x0<=x.length/\∀(y1:Nat),
 let u3:=aA (al x) (apx y1 (al x) (el x) (yF y) r (lnF W B));let u2:=x.getD (↑y1:Int).toNat [];
 let u1:=y.getD (↑y1:Int).toNat 0-(dW W u2+B);y1<=x.length->x.length<=aB->bif decide ((↑y1:Int)<↑x.length) then ax (-2:Int)/\((0 :
 Int)<=(↑y1:Int)/\(↑y1:Int)<↑y.length)/\(0<=(↑y1:Int)/\(↑y1:Int)<↑x.length)/\((W.length<=(3:Nat)/\W.length=u2.length)/\SL
 LB W/\Sq LB B/\SL (256:Nat) u2)/\(Sq BQ (y.getD (↑y1:Int).toNat 0)/\Sq BQ (dW W u2+B))/\(Sq BQ t1/\Sq BQ u1)/\(0<=(↑y1:Int)/\(↑y1 :
 Int)<(↑x.length:Int))/\(u3.length<=u2.length/\SL BQ u3/\SL BQ u2/\Sq BQ (-(t1*u1))/\∀(j:Nat),Sq BQ (-(t1*u1)*u2.getD j 0))/\(Sq BQ (apo y1
 (al x) (el x) (yF y) (lnF W B))/\Sq BQ (t1*u1))/\ax ((↑y1:Int)+1)/\∃(x':Nat),((x=x/\y=y/\(aA u3.length fun (j:Nat)=>u3.getD j (0 :
 Rat) - -(t1*u1)*u2.getD j 0)=aA (al x) (apx x' (al x) (el x) (yF y) r (lnF W B))/\(↑y1:Int)+1=↑x')/\(W=W/\B=B)/\((0 :
 Int)=(0:Int)/\(0:Nat)=0)/\apo y1 (al x) (el x) (yF y) (lnF W B)+t1*u1=apo x' (al x) (el x) (yF y) (lnF W B))/\x'<=x.length/\x.length -
 x'<x.length-y1 else aA (al x) (apx y1 (al x) (el x) (yF y) r (lnF W B))=aA (al x) (apx x.length (al x) (el x) (yF y) r (lnF W B))/\apo y1 (al
 x) (el x) (yF y) (lnF W B)=apo x.length (al x) (el x) (yF y) (lnF W B)
theorem auO (W:List Rat) ( B:Rat) (x:List (List Rat)) (y:List Rat) (r:Rat):aw LU6 [] (ava W B x y r) Tryz.f19 (T2 (.k (.list .rq) (aA (al x) (apx x.length (al x) (el x) (yF y) r (lnF W B)))) (.k .rq (apo x.length (al x) (el x) (yF y) (lnF W B)))) [.agg (.cons (.k (.list .rq) W) (.cons (.k .rq B) .nil)),.k (.list (.list .rq)) x,.k (.list .rq) y,.k .rq r]=arp W B x y r:=by kernel_rfl
theorem auP (W:List Rat) ( B:Rat) (x:List (List Rat)) (y:List Rat) (r:Rat) (hg:Trn x y/\Lin x W B/\Sq 256 r):arp W B x y r:=by
 obtain ⟨hT,hL,hr⟩:=hg;obtain ⟨m1,m2,m3⟩:=hT.facts;have hw:=hT.w3;have hn:=hT.n16;have hl:=hT.len;have hW:=hL.len;have hB:(256:Nat)<=BQ:=by unfold BQ;omega
 have b2:Sq 64 ((2:Int):Rat):=Sq.atH;have bm:Sq 64 ((-2:Int):Rat):=Sq.int (Sm.lit (by omega)) (by omega);have e2:((2:Int):Rat)=2:=rfl;have em:((-2:Int):Rat) = -2:=rfl;have dv:∀i,((-2:Int):Rat)*(yF y i-atF (al x) (el x) (lnF W B) i)=2*(atF (al x) (el x) (lnF W B) i-yF y i):=fun i=>by rw [em];grind
 unfold arp;dsimp only;refine ⟨by unfold ax;omega,⟨b2.le (by unfold BQ;omega),hr.le hB⟩,⟨hL.sW.le (by unfold LB BQ;omega),(b2.mul hr).le (by unfold BQ;omega)⟩,by unfold ax;omega,0,⟨⟨rfl,rfl,?_,rfl⟩,⟨rfl,rfl⟩,⟨rfl,rfl⟩,rfl⟩,ia _,fun i hi hLx=>aH (fun h=>?_) fun h=>?_⟩
 ·rw [hW];refine bE fun j hj=>?_;show _=2*r*lnF W B j+0;unfold lnF;rw [gU (by omega),e2];grind
 ·have cw:i<x.length:=by omega
  have hX:∀j,Sq BQ (-(2*(atF (al x) (el x) (lnF W B) i-yF y i))*(x.getD i []).getD j 0):=fun j=>((hL.off hT i).neg.mul (hT.sx i j)).le (by unfold BQ;omega);rw [show ((i:Nat):Int).toNat=i from rfl,asU hW,show y.getD i 0=yF y i from rfl,dv i,mX];refine ⟨by unfold ax;omega,⟨by omega,by omega⟩,⟨by omega,h⟩,⟨⟨by omega,by rw [m3 i cw];exact hW⟩,hL.sW,hL.sB,hT.sx i⟩,⟨(hT.Y i).le hB,(hL.at hT i).le (by unfold BQ;omega)⟩,⟨bm.le (by unfold BQ;omega),(hL.dev hT i).le (by unfold BQ;omega)⟩,⟨by omega,h⟩,⟨by rw [m3 i cw];exact dz _,SL.mk (fun j _=>(hL.slw hT hr (by omega) j).le (by unfold BQ;omega)) BQ1,(hT.sx i).le hB,(hL.off hT i).neg.le (by unfold BQ;omega),hX⟩,⟨(hL.slb hT (by omega)).le (by unfold BQ;omega),(hL.off hT i).le (by unfold BQ;omega)⟩,by unfold ax;omega,i+1,⟨⟨rfl,rfl,bE fun j hj=>?_,rfl⟩,⟨rfl,rfl⟩,⟨rfl,rfl⟩,rfl⟩,by omega,by omega⟩;rw [fW hj];show apx i (al x) (el x) (yF y) r (lnF W B) j-_=(2*r*lnF W B j+(sumN _ i+2*(atF (al x) (el x) (lnF W B) i-yF y i)*el x i j))
  unfold apx el;grind
 ·rw [show i=x.length by omega];exact ⟨rfl,rfl⟩
theorem arC:ah (cfg []) aro:=cf avN bp Tryz.func19 (by kernel_rfl) fun args g r hn hc hg hf=>by
 replace hc:ark args=some (g,r,hn):=hc;unfold ark at hc;split at hc
 ·obtain ⟨rfl,rfl,rfl⟩:=aN hc;cases aY (auO _ _ _ _ _) (auP _ _ _ _ _ hg);exact ⟨rfl,by kernel_rfl,_,by assumption⟩
 ·cases hc
def apE (n w:Nat) (X:Nat->Nat->Rat) (r:Rat) (i a b:Nat):Rat:=if a=b/\a<i then sumN (fun k=>ab5 w X k a*ab5 w X k b) n+r else sumN (fun k=>ab5 w X k a*ab5 w X k b) n
def ar8 (x:List (List Rat)):List (List Rat):=aG x.length (al x+1) (ab5 (al x) (el x))
def anv (x:List (List Rat)):List (List Rat):=aG (al x+1) x.length fun i j=>ab5 (al x) (el x) j i
theorem awG (x:List (List Rat)):(aA x.length fun t=>aA (al x+1) (ab5 (al x) (el x) t))=ar8 x:=rfl
section
variable {x:List (List Rat)} {y:List Rat} {r:Rat}
theorem atp (h:0<x.length):aj (ar8 x)=true:=Lh h (by omega) _
theorem avb (h:0<x.length):al (ar8 x)=al x+1:=by unfold al ar8;rw [na h,mX];rfl
theorem ats (h:0<x.length):aj (anv x)=true:=Lh (by omega) h _
theorem aud:al (anv x)=x.length:=by unfold al anv;rw [na (by omega),mX]
theorem aqP:(anv x).length=al x+1:=mkM_len ..
theorem avC (h:0<x.length):bz (aj (ar8 x)) (aG (al (ar8 x)) (ar8 x).length fun i j=>el (ar8 x) j i)=anv x:=by rw [atp h,avb h,show (ar8 x).length=x.length from mkM_len ..];exact jn fun i j hi hj=>Ny hj hi
theorem awN (h:0<x.length):mulM (anv x) (ar8 x)=aG (al x+1) (al x+1) (apE x.length (al x) (el x) r 0):=by
 unfold mulM;rw [aqP,avb h];refine jn fun a b ha hb=>?_
 unfold apE;rw [fh fun e=>sA _ e.2,show ((anv x).getD a []).length=x.length by unfold anv;rw [na ha,mX]];exact uv fun k hk=>by rw [show el (anv x) a k=_ from Ny ha hk,show el (ar8 x) k b=_ from Ny hk hb]
theorem Trn.abg (h:Trn x y):fK (anv x) (ar8 x):=by
 have hn:=h.n16;refine ⟨256,256,x.length,SM.mk (fun i j _ _=>h.ful _ j i) (by omega),SM.mk (fun i j _ _=>h.ful _ i j) (by omega),fun i=>?_,by have:=fi (256+256+1) hn;unfold BQ;omega⟩;rcases cM i (al x+1) with hi | hi
 ·unfold anv;rw [na hi,mX];exact dz _
 ·rw [mZ (by rw [aqP];exact hi)];exact ia _
theorem awP (n:Nat) {w:Nat} {X:Nat->Nat->Rat} {a b:Nat}:apE n w X r w a b=akl n w X r a b:=by
 unfold apE akl rdF;split
 ·exact Rat.add_comm ..
 ·exact (Rat.zero_add _).symm
theorem ayD (h:Trn x y) (hr:Sq 256 r) (i a b:Nat):Sq 9000 (apE x.length (al x) (el x) r i a b):=by
 have hs:Sq 8500 (sumN (fun k=>ab5 (al x) (el x) k a*ab5 (al x) (el x) k b) x.length):=(Sq.sumN fun t _=>(h.ful _ t a).mul (h.ful _ t b)).le (by have:=fi (256+256+1) h.n16;omega);unfold apE;split
 ·exact (hs.add hr).le (by omega)
 ·exact hs.le (by omega)
theorem awK {n m i j:Nat} {F:Nat->Nat->Rat} (hi:i<n) (hj:j<m) (v:Rat):(aG n m F).set i ((aA m (F i)).set j v)=aG n m fun a b=>if a=i/\b=j then v else F a b:=by have h:=asW (F:=F) hi hj v;unfold bD at h;rw [List.set_cons_succ] at h;exact (List.cons.inj h).2
theorem map_id {n m:Nat} (F:Nat->Nat->Rat):List.map (fun p=>(aG n m F).getD p []) (aA n fun t=>t)=aG n m F:=by rw [sv];exact bE fun i hi=>na hi
theorem ave (hT:Trn x y):(bif aj (anv x) then bif decide (al (anv x)=y.length) then aA (anv x).length fun i=>dW ((anv x).getD i []) y else [] else [])=rhL x y:=by rw [ats hT.facts.1,jo,aud,kJ hT.len,jo,aqP];refine bE fun i hi=>?_;unfold anv dW;rw [na hi,mX];exact uv fun k hk=>by rw [fW hk];rfl
theorem avf (hT:Trn x y) {i:Nat} (hi:i<(anv x).length):lM ((anv x).getD i []) y:=by
 rw [aqP] at hi;refine ⟨256,256,?_,hT.sy,?_⟩
 ·unfold anv;rw [na hi];exact SL.mk (fun j _=>hT.ful _ j i) (by omega)
 ·unfold anv;rw [na hi,mX];have:=fi (256+256+1) hT.n16;unfold BQ;omega
theorem avg:aI (aM x r)=true:=by unfold aI;rw [atb,aqE,apy];exact kJ rfl
theorem Trn.az7 (hT:Trn x y):9000*5^(al x+1+(al x+1))<=3515625000:=nP (fi 9000 (jV (n:=5) (by omega) (show al x+1+(al x+1)<=8 by have:=hT.w3;omega))) (by decide)
theorem Trn.inv2 (hT:Trn x y) (hr:Sq 256 r):Inv2 (aM x r):=by refine ⟨9000,by omega,SM.mk (fun i j _ _=>hT.nor hr hT.n16 _ i j) (by omega),?_⟩;rw [aqE];exact nP hT.az7 (by unfold BQ;omega)
theorem avh:aeF (aM x r)=aoK x y r:=by
 have e:(rr (aM x r).length (el (aM x r)) (aM x r).length).2=(rr (al x+1) (akl x.length (al x) (el x) r) (al x+1)).2:=by rw [aqE];exact (aed (fun i j hi hj=>asM hi hj) _ (dz _)).1
 unfold aeF;rw [e,aqE]
 cases hf:aoK x y r with
 | true=>exact kJ (arO hf)
 | false=>
  refine pj fun h=>?_;have:aoK x y r=true:=by unfold aoK;rw [arN h,jo];exact kJ (aqH.2 h)
  rw [this] at hf;cases hf
def aqF (x:List (List Rat)) (r:Rat) (b:Bool):List (List Rat):=bif b then aG (al x+1) (al x+1) (abW (al x+1) (el (aM x r))) else []
theorem inv_eq {b:Bool} (h:aoK x y r=b):(bif aeF (aM x r) then aG (aM x r).length (aM x r).length (abW (aM x r).length (el (aM x r))) else [])=aqF x r b:=by rw [avh (y:=y),h,aqE];rfl
theorem Trn.aDC (hT:Trn x y) (hr:Sq 256 r) (i j:Nat):Sq 3515625000 (abW (al x+1) (el (aM x r)) i j):=by
 unfold abW;refine (afy (s:=9000) (by omega) (fun a b=>?_) _ _ _).le hT.az7;unfold abB;split
 ·exact (SM.mk (fun i j _ _=>hT.nor hr hT.n16 _ i j) (by omega):SM 9000 (aM x r)) a b
 ·exact (awd _ _).le (by omega)
theorem Trn.aDD (hT:Trn x y) (hr:Sq 256 r) {i:Nat} (hi:i<(aqF x r true).length):lM ((aqF x r true).getD i []) (rhL x y):=by
 have hi:i<al x+1:=by rw [show (aqF x r true).length=al x+1 from mkM_len ..] at hi;exact hi
 have e:(aqF x r true).getD i []=aA (al x+1) (abW (al x+1) (el (aM x r)) i):=na hi;have:=hT.w3;rw [e];refine ⟨3515625000,9000,SL.mk (fun j _=>hT.aDC hr i j) (by omega),SL.mk (fun j _=>hT.rhs hT.n16 _ j) (by omega),?_⟩;rw [mX];unfold BQ;omega
theorem azE (hr:0<=r) (h:aoK x y r=true):(bif aj (aqF x r true) then bif decide (al (aqF x r true)=(rhL x y).length) then aA (aqF x r true).length fun i=>dW ((aqF x r true).getD i []) (rhL x y) else [] else [])=aer (aM x r) (rhL x y):=by
 have e0:aj (aqF x r true)=true:=Lh (by omega) (by omega) _;have e1:al (aqF x r true)=al x+1:=by unfold al aqF;rw [jo,na (by omega),mX];rfl
 have e2:(aqF x r true).length=al x+1:=mkM_len ..;rw [e0,jo,e1,atI,kJ rfl,jo,e2];unfold aer;rw [apy,aqE];refine bE fun i hi=>?_;have hf:(rr (al x+1) (el (aM x r)) (al x+1)).2.length=al x+1:=by rw [(aed (fun i j hi hj=>asM hi hj) _ (dz _)).1];exact arO h
 have hs:=ak9 (arN (y:=y) (arO h));rw [aqE,apy] at hs;have hl:=ahP hf;unfold dW;rw [show (aqF x r true).getD i []=aA (al x+1) (abW (al x+1) (el (aM x r)) i) from na hi,mX];rw [uv (g:=fun j=>abW (al x+1) (el (aM x r)) i j*sumN (fun k=>el (aM x r) j k*ak8 (al x+1) (al x+1) (el (aM x r)) (fun i=>(rhL x y).getD i 0) k) (al x+1)) fun j hj=>by rw [fW hj,hs j hj],aqT];rw [uv (g:=fun k=>iP i k*ak8 (al x+1) (al x+1) (el (aM x r)) (fun i=>(rhL x y).getD i 0) k) fun k hk=>by rw [<-hl i k hi hk,LL];unfold dw;rw [<-tL];exact EX (· * _) (uv fun j _=>LL ..)]
 exact aef _ hi
end
noncomputable def LU7:List az:=ayy::NT::anZ::apm::LU6
theorem ayE:bd LU7:=⟨ax6,LK,an2,apv,avN⟩
def frFitY:List AV->Option (Option Prop×AV×List Ob)
 | [.k (.list (.list .rq)) x,.k (.list .rq) y,.k .rq r]=>some (some (Trn x y/\Sq 256 r/\0<=r/\aoK x y r=true),T2 (.agg (.cons (.k (.list .rq) (aga x y r)) (.cons (.k .rq (aci x y r)) .nil))) (.k (.int .i64) (0:Int)),[])
 | _=>none
def ayF:az:=⟨12,false,frFitY⟩
def ay5 (x:List (List Rat)) (y:List Rat) (r:Rat):bk:=⟨fun key_=>match key_ with | 12=>14 | 18=>7 | _=>0,fun key_=>match key_ with
 | 4=>some (⟨Nat,fun i=>[(0,.k (.list (.list .rq)) x),(1,.k (.list .rq) y),(5,.pt 5 0 3 0 0),(6,.pt 6 0 4 0 0),(8,.k (.int .i64) ((al x:Nat):Int)),(9,.own 9 0 1),(10,.k (.int .i64) ((i:Nat):Int))],
 fun i=>[(5,.box 33 (.k .rq r)),(6,.box 55 (.agg (.cons .akv (.cons (.agg (.cons (.k .ri (0:Int)) (.cons (.k .rn (0:Nat)) .nil))) .nil)))),(9,.arr 25 (.list .rq) (aA i fun t=>aA (al x+1) (ab5 (al x) (el x) t)))],
 fun _ i=>i<=x.length,fun i=>x.length-i⟩)
 | 10=>some (⟨Nat,fun i=>[(1,.k (.list .rq) y),(5,.pt 5 0 3 0 0),(6,.pt 6 0 4 0 0),(8,.k (.int .i64) ((al x:Nat):Int)),(11,.k (.list (.list .rq)) (anv x)),(13,.own 52 0 1),(15,.k (.int .i64) ((i:Nat):Int))],
 fun i=>[(5,.box 33 (.k .rq r)),(6,.box 55 (.agg (.cons .akv (.cons (.agg (.cons (.k .ri (0:Int)) (.cons (.k .rn (0:Nat)) .nil))) .nil)))),(52,.bc 25 33 .rq (aA (al x+1) fun t=>t) (aG (al x+1) (al x+1) (apE x.length (al x) (el x) r i)))],
 fun _ i=>i<=al x,fun i=>al x-i⟩)
 | 1000013=>some (⟨Unit,fun _=>[(6,.pt 6 0 4 0 0),(8,.k (.int .i64) ((al x:Nat):Int)),(13,.own 52 0 1),(16,.k (.list .rq) (rhL x y))],
 fun _=>[(6,.box 55 (.agg (.cons .akv (.cons (.agg (.cons (.k .ri (0:Int)) (.cons (.k .rn (0:Nat)) .nil))) .nil)))),(52,.bc 25 33 .rq (aA (al x+1) fun t=>t) (aM x r))],fun _ _=>True,fun _=>0⟩)
 | 1000014=>some (⟨Unit,fun _=>[(6,.pt 6 0 4 0 0),(8,.k (.int .i64) ((al x:Nat):Int)),(16,.k (.list .rq) (rhL x y)),(18,.k (.list (.list .rq)) (aqF x r true)),(19,.k .bool true)],
 fun _=>[(6,.box 55 (.agg (.cons .akv (.cons (.agg (.cons (.k .ri (0:Int)) (.cons (.k .rn (0:Nat)) .nil))) .nil))))],fun _ _=>True,fun _=>0⟩) | _=>none,nR,nU⟩
def avO (x:List (List Rat)) (y:List Rat) (r:Rat):Prop:=
 let t1:=al x+1;
 let t2:=aA t1 fun (t:Nat)=>t;
 let t3:=List.map (fun (p:Nat)=>(aM x r).getD p []) t2;
 let t4:=(↑(al x):Int);
 let t5:=aqF x r true;
 ((0:Int)<=(0:Int)/\(0:Int)<(↑x.length:Int))/\((x.getD (Int.toNat (0:Int)) []).length<=aB->∃(x0:Nat),((x=x/\y=y/\(↑(x.getD (Int.toNat (0 :
 Int)) []).length:Int)=t4/\(0:Int)=(↑x0:Int))/\r=r/\((0:Int)=(0:Int)/\(0:Nat)=0)/\(aA x0 fun (t:Nat)=>aA t1 (ab5 (al x) (el x)
 t))=[])/\x0<=x.length/\∀(y1:Nat),let u4:=([]:List Rat).append (x.getD (↑y1:Int).toNat []);
 let u1:=aA y1 fun (t:Nat)=>aA t1 (ab5 (al x) (el x) t);y1<=x.length->x.length<=aB->bif decide ((↑y1:Int)<↑x.length) then (0<=(↑y1 :
 Int)/\(↑y1:Int)<↑x.length)/\([]:List Rat).length+(x.getD (↑y1:Int).toNat []).length<=aB/\ax (1:Int)/\u4.length+[(↑(1:Int):Rat)].length <=
 aB/\u1.length+[u4.append [(↑(1:Int):Rat)]].length<=aB/\ax ((↑y1:Int)+1)/\∃(x':Nat),((x=x/\y=y/\t4=t4/\(↑y1:Int)+1 =
 (↑x':Int))/\r=r/\((0:Int)=(0:Int)/\(0:Nat)=0)/\u1.append [u4.append [(↑(1:Int):Rat)]]=aA x' fun (t:Nat)=>aA t1 (ab5 (al x) (el
 x) t))/\x'<=x.length/\x.length-x'<x.length-y1 else (bF (bz (aj u1) (aG (al u1) u1.length fun (i j:Nat)=>el u1 j i)) u1=true/\fK (bz (aj
 u1) (aG (al u1) u1.length fun (i j:Nat)=>el u1 j i)) u1)/\∃(x0:Nat),((y=y/\t4=t4/\bz (aj u1) (aG (al u1) u1.length fun (i j:Nat)=>el u1 j
 i)=anv x/\(0:Int)=(↑x0:Int))/\r=r/\((0:Int)=(0:Int)/\(0:Nat)=0)/\((aA (bz (aj u1) (aG (al u1) u1.length fun (i j:Nat)=>el
 u1 j i)).length fun (t:Nat)=>t)=aA t1 fun (t:Nat)=>t)/\mulM (bz (aj u1) (aG (al u1) u1.length fun (i j:Nat)=>el u1 j i)) u1=aG t1 t1 (apE
 x.length (al x) (el x) r x0))/\x0<=al x/\∀(y2:Nat),let u3:=t2.getD (↑y2:Int).toNat 0;let u2:=aG t1 t1 (apE x.length (al x) (el x) r y2);
 y2<=al x->bif decide ((↑y2:Int)<t4) then (0<=(↑y2:Int)/\(↑y2:Int)<↑t2.length)/\(↑y2:Int).toNat<t2.length/\(0<=(↑y2:Int)
 /\ (↑y2:Int)<↑t2.length)/\(↑y2:Int).toNat<t2.length/\(u3<u2.length/\0<=(↑y2:Int)/\(↑y2:Int)<↑(u2.getD u3 []).length)/\(u3 <
 u2.length/\(↑y2:Int).toNat<(u2.getD u3 []).length)/\(Sq BQ ((u2.getD u3 []).getD (↑y2:Int).toNat 0)/\Sq BQ r)/\(u3<u2.length/\0<=(↑y2:Int)
 /\ (↑y2:Int)<↑(u2.getD u3 []).length)/\(u3<u2.length/\(↑y2:Int).toNat<(u2.getD u3 []).length)/\ax ((↑y2:Int)+1)/\∃(x':Nat),((y=y
 /\ t4=t4/\anv x=anv x/\(↑y2:Int)+1=↑x')/\r=r/\((0:Int)=(0:Int)/\(0:Nat)=0)/\(t2=aA t1 fun (t:Nat)=>t)/\u2.set
 u3 ((u2.getD u3 []).set (↑y2:Int).toNat ((u2.getD u3 []).getD (↑y2:Int).toNat 0+r))=aG t1 t1 (apE x.length (al x) (el x) r x'))/\x'<=al x /\
 al x-x'<al x-y2 else (∀(i:Nat),i<(anv x).length->lM ((anv x).getD i []) y)/\∃(x0b:Unit),((t4=t4/\(bif aj (anv x) then bif decide
 (al (anv x)=y.length) then aA (anv x).length fun (i:Nat)=>dW ((anv x).getD i []) y else [] else [])=rhL x y)/\((0:Int)=(0:Int)/\(0:Nat)=(0 :
 Nat))/\(t2=aA t1 fun (t:Nat)=>t)/\aG t1 t1 (apE x.length (al x) (el x) r y2)=aM x r)/\True/\∀(y3:Unit),True->(aI t3=true/\t3.length<=(300
 : Nat)/\Inv2 t3)/\∃(x0b:Unit),((t4=t4/\rhL x y=rhL x y/\(bif aeF t3 then aG t3.length t3.length (abW t3.length (el t3)) else [])=aqF x r true/\aeF t3
 = true)/\(0:Int)=(0:Int)/\(0:Nat)=0)/\True/\∀(y4:Unit),True->(∀(i:Nat),i<t5.length->lM (t5.getD i []) (rhL x y))/\rz (bif aj t5
 then bif decide (al t5=(rhL x y).length) then aA t5.length fun (i:Nat)=>dW (t5.getD i []) (rhL x y) else [] else []).length none (some t4) none/\((0:Int) <=
 t4/\t4<(↑(bif aj t5 then bif decide (al t5=(rhL x y).length) then aA t5.length fun (i:Nat)=>dW (t5.getD i []) (rhL x y) else [] else []).length:Int))
 /\ (cutL (bif aj t5 then bif decide (al t5=(rhL x y).length) then aA t5.length fun (i:Nat)=>dW (t5.getD i []) (rhL x y) else [] else []) none (some t4) =
 aga x y r/\(bif aj t5 then bif decide (al t5=(rhL x y).length) then aA t5.length fun (i:Nat)=>dW (t5.getD i []) (rhL x y) else [] else []).getD t4.toNat
 (0:Rat)=aci x y r)/\(0:Int)=0)
theorem axR (x:List (List Rat)) (y:List Rat) (r:Rat):aw LU7 [] (ay5 x y r) Tryz.f12 (T2 (.agg (.cons (.k (.list .rq) (aga x y r)) (.cons (.k .rq (aci x y r)) .nil))) (.k (.int .i64) (0:Int))) [.k (.list (.list .rq)) x,.k (.list .rq) y,.k .rq r]=avO x y r:=by kernel_rfl
theorem axU (x:List (List Rat)) (y:List Rat) (r:Rat) (hg:Trn x y/\Sq 256 r/\0<=r/\aoK x y r=true) (hf:cJ [.k (.list (.list .rq)) x,.k (.list .rq) y,.k .rq r]):avO x y r:=by
 obtain ⟨hT,hr,h0,hf⟩:=hg;obtain ⟨m1,m2,m3⟩:=hT.facts;have hw:=hT.w3;have hn:=hT.n16;have hB:(256:Nat)<=BQ:=by unfold BQ;omega
 unfold avO;try dsimp only
 refine ⟨⟨by omega,by omega⟩,fun _=>⟨0,⟨⟨rfl,rfl,rfl,rfl⟩,rfl,⟨rfl,rfl⟩,rfl⟩,ia _,fun i hi hLx=>aH (fun h=>?_) fun h=>?_⟩⟩
 ·have cw:i<x.length:=by omega
  have e5:(([]:List Rat).append (x.getD ((i:Nat):Int).toNat [])).length=al x:=m3 i cw;have ef:(([]:List Rat).append (x.getD ((i:Nat):Int).toNat [])).append [((1:Int):Rat)]=aA (al x+1) (ab5 (al x) (el x) i):=by
   show x.getD i []++[((1:Int):Rat)]=_;rw [tI];congr 1
   ·exact vt 0 (m3 i cw) fun j hj=>(aqv (X:=el x) (i:=i) hj).symm
   ·rw [arn];rfl
  rw [e5,ef,mX];exact ⟨⟨by omega,h⟩,by show 0+(x.getD i []).length<=aB;rw [m3 i cw];unfold aB;omega,by unfold ax;omega,by simp;unfold aB;omega,by simp;unfold aB;omega,by unfold ax;omega,i+1,⟨⟨rfl,rfl,rfl,rfl⟩,rfl,⟨rfl,rfl⟩,eD rfl⟩,by omega,by omega⟩
 have ei:i=x.length:=by omega
 subst ei;rw [awG,avC m1];refine ⟨⟨qY (ats m1) (atp m1) (aud.trans (mkM_len ..).symm),hT.abg⟩,0,⟨⟨rfl,rfl,rfl,rfl⟩,rfl,⟨rfl,rfl⟩,by rw [aqP],awN m1⟩,ia _,fun i hi=>aH (fun h1=>?_) fun h1=>?_⟩
 ·have cw:i<al x:=by omega
  have hm:i<al x+1:=by omega
  have o1:(aA (al x+1) fun t=>t).getD ((i:Nat):Int).toNat 0=i:=fW hm 0;rw [o1,na hm,mX,mX,mkM_len,show ((i:Nat):Int).toNat=i from rfl,fW hm];refine ⟨⟨by omega,by omega⟩,hm,⟨by omega,by omega⟩,hm,⟨hm,by omega,by omega⟩,⟨hm,hm⟩,⟨(ayD hT hr i i i).le (by unfold BQ;omega),hr.le hB⟩,⟨hm,by omega,by omega⟩,⟨hm,hm⟩,by unfold ax;omega,i+1,⟨⟨rfl,rfl,rfl,rfl⟩,rfl,⟨rfl,rfl⟩,rfl,(awK hm hm _).trans (jn fun a b _ _=>?_)⟩,by omega,by omega⟩;unfold apE;by_cases e:a=i/\b=i
  ·obtain ⟨rfl,rfl⟩:=e;rw [gU ⟨rfl,rfl⟩,fh (by omega),gU ⟨rfl,by omega⟩]
  ·rw [fh e];by_cases e2:a=b/\a<i
   ·rw [gU e2,gU ⟨e2.1,by omega⟩]
   ·rw [fh e2,fh (by omega)]
 ·have e:i=al x:=by omega
  subst e;have eA:aG (al x+1) (al x+1) (apE x.length (al x) (el x) r (al x))=aM x r:=jn fun a b _ _=>awP _
  rw [ave hT,eA];refine ⟨fun i hi=>avf hT hi,(),⟨⟨rfl,rfl⟩,⟨rfl,rfl⟩,rfl,rfl⟩,trivial,fun _ _=>?_⟩;rw [show List.map (fun p=>(aM x r).getD p []) (aA (al x+1) fun t=>t)=aM x r from map_id _];rw [inv_eq hf,avh (y:=y),hf];refine ⟨⟨avg,by rw [aqE];omega,hT.inv2 hr⟩,(),⟨⟨rfl,rfl,rfl,rfl⟩,rfl,rfl⟩,trivial,fun _ _=>?_⟩;have eS:(aer (aM x r) (rhL x y)).length=al x+1:=by rw [arJ,apy]
  rw [azE h0 hf,eS];obtain ⟨f1,f2,_⟩:=ap9 h0 hf;exact ⟨fun i hi=>hT.aDD hr hi,⟨by omega,by omega⟩,⟨by omega,by omega⟩,⟨f1.symm,f2.symm⟩,rfl⟩
theorem ayc:ah (cfg []) ayF:=cf ayE bp Tryz.func12 (by kernel_rfl) fun args g r hn hc hg hf=>by
 replace hc:frFitY args=some (g,r,hn):=hc;unfold frFitY at hc;split at hc
 ·obtain ⟨rfl,rfl,rfl⟩:=aN hc;cases aY (axR _ _ _) (axU _ _ _ hg hf);exact ⟨rfl,by kernel_rfl,_,by assumption⟩
 ·cases hc
def avS:List AV->Option (Option Prop×AV×List Ob)
 | [.k (.list (.list .rq)) x,.k (.list .rq) y,.k .rq r]=>some (some (Trn x y/\Sq 256 r/\0<=r/\aoK x y r=false),T2 (.agg (.cons .akv (.cons (.agg (.cons (.k .ri (0:Int)) (.cons (.k .rn (0:Nat)) .nil))) .nil))) (.k (.int .i64) (9:Int)),[])
 | _=>none
def ayI:az:=⟨12,false,avS⟩
def ay6 (x:List (List Rat)) (y:List Rat) (r:Rat):bk:=⟨fun key_=>match key_ with | 12=>14 | 18=>7 | _=>0,fun key_=>match key_ with
 | 4=>some (⟨Nat,fun i=>[(0,.k (.list (.list .rq)) x),(1,.k (.list .rq) y),(5,.pt 5 0 3 0 0),(6,.pt 6 0 4 0 0),(8,.k (.int .i64) ((al x:Nat):Int)),(9,.own 9 0 1),(10,.k (.int .i64) ((i:Nat):Int))],
 fun i=>[(5,.box 33 (.k .rq r)),(6,.box 55 (.agg (.cons .akv (.cons (.agg (.cons (.k .ri (0:Int)) (.cons (.k .rn (0:Nat)) .nil))) .nil)))),(9,.arr 25 (.list .rq) (aA i fun t=>aA (al x+1) (ab5 (al x) (el x) t)))],
 fun _ i=>i<=x.length,fun i=>x.length-i⟩)
 | 10=>some (⟨Nat,fun i=>[(1,.k (.list .rq) y),(5,.pt 5 0 3 0 0),(6,.pt 6 0 4 0 0),(8,.k (.int .i64) ((al x:Nat):Int)),(11,.k (.list (.list .rq)) (anv x)),(13,.own 52 0 1),(15,.k (.int .i64) ((i:Nat):Int))],
 fun i=>[(5,.box 33 (.k .rq r)),(6,.box 55 (.agg (.cons .akv (.cons (.agg (.cons (.k .ri (0:Int)) (.cons (.k .rn (0:Nat)) .nil))) .nil)))),(52,.bc 25 33 .rq (aA (al x+1) fun t=>t) (aG (al x+1) (al x+1) (apE x.length (al x) (el x) r i)))],
 fun _ i=>i<=al x,fun i=>al x-i⟩)
 | 1000013=>some (⟨Unit,fun _=>[(6,.pt 6 0 4 0 0),(8,.k (.int .i64) ((al x:Nat):Int)),(13,.own 52 0 1),(16,.k (.list .rq) (rhL x y))],
 fun _=>[(6,.box 55 (.agg (.cons .akv (.cons (.agg (.cons (.k .ri (0:Int)) (.cons (.k .rn (0:Nat)) .nil))) .nil)))),(52,.bc 25 33 .rq (aA (al x+1) fun t=>t) (aM x r))],fun _ _=>True,fun _=>0⟩)
 | 1000014=>some (⟨Unit,fun _=>[(6,.pt 6 0 4 0 0),(8,.k (.int .i64) ((al x:Nat):Int)),(16,.k (.list .rq) (rhL x y)),(18,.k (.list (.list .rq)) (aqF x r false)),(19,.k .bool false)],
 fun _=>[(6,.box 55 (.agg (.cons .akv (.cons (.agg (.cons (.k .ri (0:Int)) (.cons (.k .rn (0:Nat)) .nil))) .nil))))],fun _ _=>True,fun _=>0⟩) | _=>none,nR,nU⟩
def avT (x:List (List Rat)) (y:List Rat) (r:Rat):Prop:=((0:Int)<=(0:Int)/\(0:Int)<(↑x.length:Int))/\((x.getD (Int.toNat (0:Int)) []).length<=aB->∃(x0:Nat),((x=x/\y=y/\(↑(x.getD (Int.toNat (0 :
 Int)) []).length:Int)=(↑(al x):Int)/\(0:Int)=(↑x0:Int))/\r=r/\((0:Int)=(0:Int)/\(0:Nat)=0)/\(aA x0 fun (t:Nat)=>aA (al x
 + (1:Nat)) (ab5 (al x) (el x) t))=[])/\x0<=x.length/\∀(y1:Nat),y1<=x.length->x.length<=aB->bif decide ((↑y1:Int)<↑x.length) then ((0 :
 Int)<=(↑y1:Int)/\(↑y1:Int)<↑x.length)/\([]:List Rat).length+(x.getD (↑y1:Int).toNat []).length<=aB/\ax (1:Int)/\(([]:List Rat).append
 (x.getD (↑y1:Int).toNat [])).length+[(↑(1:Int):Rat)].length<=aB/\(aA y1 fun (t:Nat)=>aA (al x+1) (ab5 (al x) (el x) t)).length+[(([] :
 List Rat).append (x.getD (↑y1:Int).toNat [])).append [(↑(1:Int):Rat)]].length<=aB/\ax ((↑y1:Int)+1)/\∃(x':Nat),((x=x/\y=y/\(↑(al x) :
 Int)=(↑(al x):Int)/\(↑y1:Int)+1=↑x')/\r=r/\((0:Int)=(0:Int)/\(0:Nat)=0)/\(aA y1 fun (t:Nat)=>aA (al x+(1
 : Nat)) (ab5 (al x) (el x) t)).append [(([]:List Rat).append (x.getD (↑y1:Int).toNat [])).append [(↑(1:Int):Rat)]]=aA x' fun (t:Nat)=>aA (al x+(1
 : Nat)) (ab5 (al x) (el x) t))/\x'<=x.length/\x.length-x'<x.length-y1 else (bF (bz (aj (aA y1 fun (t:Nat)=>aA (al x+1) (ab5
 (al x) (el x) t))) (aG (al (aA y1 fun (t:Nat)=>aA (al x+1) (ab5 (al x) (el x) t))) (aA y1 fun (t:Nat)=>aA (al x+1) (ab5
 (al x) (el x) t)).length fun (i j:Nat)=>el (aA y1 fun (t:Nat)=>aA (al x+1) (ab5 (al x) (el x) t)) j i)) (aA y1 fun (t:Nat)=>aA (al
 x+1) (ab5 (al x) (el x) t))=true/\fK (bz (aj (aA y1 fun (t:Nat)=>aA (al x+1) (ab5 (al x) (el x) t))) (aG (al (aA y1
 fun (t:Nat)=>aA (al x+1) (ab5 (al x) (el x) t))) (aA y1 fun (t:Nat)=>aA (al x+1) (ab5 (al x) (el x) t)).length fun (i j :
 Nat)=>el (aA y1 fun (t:Nat)=>aA (al x+1) (ab5 (al x) (el x) t)) j i)) (aA y1 fun (t:Nat)=>aA (al x+1) (ab5 (al x) (el x)
 t)))/\∃(x0:Nat),((y=y/\(↑(al x):Int)=(↑(al x):Int)/\bz (aj (aA y1 fun (t:Nat)=>aA (al x+1) (ab5 (al x) (el x) t))) (aG
 (al (aA y1 fun (t:Nat)=>aA (al x+1) (ab5 (al x) (el x) t))) (aA y1 fun (t:Nat)=>aA (al x+1) (ab5 (al x) (el x) t)).length
 fun (i j:Nat)=>el (aA y1 fun (t:Nat)=>aA (al x+1) (ab5 (al x) (el x) t)) j i)=anv x/\(0:Int)=(↑x0:Int))/\r=r/\((0:Int)=(0 :
 Int)/\(0:Nat)=0)/\((aA (bz (aj (aA y1 fun (t:Nat)=>aA (al x+1) (ab5 (al x) (el x) t))) (aG (al (aA y1 fun (t:Nat)=>aA
 (al x+1) (ab5 (al x) (el x) t))) (aA y1 fun (t:Nat)=>aA (al x+1) (ab5 (al x) (el x) t)).length fun (i j:Nat)=>el (aA y1 fun
 (t:Nat)=>aA (al x+1) (ab5 (al x) (el x) t)) j i)).length fun (t:Nat)=>t)=aA (al x+1) fun (t:Nat)=>t)/\mulM (bz (aj
 (aA y1 fun (t:Nat)=>aA (al x+1) (ab5 (al x) (el x) t))) (aG (al (aA y1 fun (t:Nat)=>aA (al x+1) (ab5 (al x) (el x) t)))
 (aA y1 fun (t:Nat)=>aA (al x+1) (ab5 (al x) (el x) t)).length fun (i j:Nat)=>el (aA y1 fun (t:Nat)=>aA (al x+1) (ab5 (al
 x) (el x) t)) j i)) (aA y1 fun (t:Nat)=>aA (al x+1) (ab5 (al x) (el x) t))=aG (al x+1) (al x+1) (apE x.length (al
 x) (el x) r x0))/\x0<=al x/\∀(y2:Nat),y2<=al x->bif decide ((↑y2:Int)<↑(al x)) then (0<=(↑y2:Int)/\(↑y2:Int)<(↑(aA (al x
 + (1:Nat)) fun (t:Nat)=>t).length:Int))/\(↑y2:Int).toNat<(aA (al x+1) fun (t:Nat)=>t).length/\(0<=(↑y2:Int)/\(↑y2:Int) <
 (↑(aA (al x+1) fun (t:Nat)=>t).length:Int))/\(↑y2:Int).toNat<(aA (al x+1) fun (t:Nat)=>t).length/\(((aA (al x+1)
 fun (t:Nat)=>t).getD (↑y2:Int).toNat 0)<(aG (al x+1) (al x+1) (apE x.length (al x) (el x) r y2)).length/\0<=(↑y2
 : Int)/\(↑y2:Int)<(↑((aG (al x+1) (al x+1) (apE x.length (al x) (el x) r y2)).getD (((aA (al x+1) fun (t:Nat)=>
 t).getD (↑y2:Int).toNat 0)) []).length:Int))/\((((aA (al x+1) fun (t:Nat)=>t).getD (↑y2:Int).toNat 0))<(aG (al x+(1 :
 Nat)) (al x+1) (apE x.length (al x) (el x) r y2)).length/\(↑y2:Int).toNat<((aG (al x+1) (al x+1) (apE x.length (al x)
 (el x) r y2)).getD ((((aA (al x+1) fun (t:Nat)=>t).getD (↑y2:Int).toNat 0))) []).length)/\(Sq BQ (((aG (al x+1) (al x+(1 :
 Nat)) (apE x.length (al x) (el x) r y2)).getD ((((aA (al x+1) fun (t:Nat)=>t).getD (↑y2:Int).toNat 0))) []).getD (↑y2:Int).toNat (0 :
 Rat))/\Sq BQ r)/\(((aA (al x+1) fun (t:Nat)=>t).getD (↑y2:Int).toNat 0)<(aG (al x+1) (al x+1) (apE x.length
 (al x) (el x) r y2)).length/\0<=(↑y2:Int)/\(↑y2:Int)<(↑((aG (al x+1) (al x+1) (apE x.length (al x) (el x) r y2)).getD
 (((aA (al x+1) fun (t:Nat)=>t).getD (↑y2:Int).toNat 0)) []).length:Int))/\((((aA (al x+1) fun (t:Nat)=>t).getD (↑y2 :
 Int).toNat 0))<(aG (al x+1) (al x+1) (apE x.length (al x) (el x) r y2)).length/\(↑y2:Int).toNat<((aG (al x+1)
 (al x+1) (apE x.length (al x) (el x) r y2)).getD ((((aA (al x+1) fun (t:Nat)=>t).getD (↑y2:Int).toNat 0))) []).length)/\ax
 ((↑y2:Int)+1)/\∃(x':Nat),((y=y/\(↑(al x):Int)=(↑(al x):Int)/\anv x=anv x/\(↑y2:Int)+1=↑x')/\r=r/\((0 :
 Int)=(0:Int)/\(0:Nat)=0)/\((aA (al x+1) fun (t:Nat)=>t)=aA (al x+1) fun (t:Nat)=>t)/\(aG (al x+1)
 (al x+1) (apE x.length (al x) (el x) r y2)).set ((aA (al x+1) fun (t:Nat)=>t).getD (↑y2:Int).toNat 0) (((aG (al x+(1 :
 Nat)) (al x+1) (apE x.length (al x) (el x) r y2)).getD ((aA (al x+1) fun (t:Nat)=>t).getD (↑y2:Int).toNat 0) []).set (↑y2 :
 Int).toNat (((aG (al x+1) (al x+1) (apE x.length (al x) (el x) r y2)).getD ((aA (al x+1) fun (t:Nat)=>t).getD (↑y2 :
 Int).toNat 0) []).getD (↑y2:Int).toNat 0+r))=aG (al x+1) (al x+1) (apE x.length (al x) (el x) r x'))/\x'<=al x /\
 al x-x'<al x-y2 else (∀(i:Nat),i<(anv x).length->lM ((anv x).getD i []) y)/\∃(x0b:Unit),(((↑(al x):Int)=(↑(al x):Int)/\(bif
 aj (anv x) then bif decide (al (anv x)=y.length) then aA (anv x).length fun (i:Nat)=>dW ((anv x).getD i []) y else [] else [])=rhL x y)/\((0:Int)
 = (0:Int)/\(0:Nat)=0)/\((aA (al x+1) fun (t:Nat)=>t)=aA (al x+1) fun (t:Nat)=>t)/\aG (al x+1) (al
 x+1) (apE x.length (al x) (el x) r y2)=aM x r)/\True/\∀(y3:Unit),True->(aI (List.map (fun (p:Nat)=>(aM x r).getD p []) (aA (al x+(1
 : Nat)) fun (t:Nat)=>t))=true/\(List.map (fun (p:Nat)=>(aM x r).getD p []) (aA (al x+1) fun (t:Nat)=>t)).length<=(300:Nat)/\Inv2
 (List.map (fun (p:Nat)=>(aM x r).getD p []) (aA (al x+1) fun (t:Nat)=>t)))/\∃(x0b:Unit),(((↑(al x):Int)=(↑(al x):Int)/\rhL x y =
 rhL x y/\(bif aeF (List.map (fun (p:Nat)=>(aM x r).getD p []) (aA (al x+1) fun (t:Nat)=>t)) then aG (List.map (fun (p:Nat)=>(aM x r).getD p
 []) (aA (al x+1) fun (t:Nat)=>t)).length (List.map (fun (p:Nat)=>(aM x r).getD p []) (aA (al x+1) fun (t:Nat)=>t)).length (abW
 (List.map (fun (p:Nat)=>(aM x r).getD p []) (aA (al x+1) fun (t:Nat)=>t)).length (el (List.map (fun (p:Nat)=>(aM x r).getD p []) (aA (al x +
 (1:Nat)) fun (t:Nat)=>t)))) else [])=aqF x r false/\aeF (List.map (fun (p:Nat)=>(aM x r).getD p []) (aA (al x+1) fun (t:Nat)=>t)) =
 false)/\(0:Int)=(0:Int)/\(0:Nat)=0)/\True/\∀(x:Unit),True->((0:Int)=(0:Int)/\(0:Nat)=0)/\(9:Int)=(9:Int))
theorem ayd (x:List (List Rat)) (y:List Rat) (r:Rat):aw LU7 [] (ay6 x y r) Tryz.f12 (T2 (.agg (.cons .akv (.cons (.agg (.cons (.k .ri (0:Int)) (.cons (.k .rn (0:Nat)) .nil))) .nil))) (.k (.int .i64) (9:Int))) [.k (.list (.list .rq)) x,.k (.list .rq) y,.k .rq r]=avT x y r:=by kernel_rfl
theorem aye (x:List (List Rat)) (y:List Rat) (r:Rat) (hg:Trn x y/\Sq 256 r/\0<=r/\aoK x y r=false) (hf:cJ [.k (.list (.list .rq)) x,.k (.list .rq) y,.k .rq r]):avT x y r:=by
 obtain ⟨hT,hr,h0,hf⟩:=hg;obtain ⟨m1,m2,m3⟩:=hT.facts;have hw:=hT.w3;have hn:=hT.n16;have hB:(256:Nat)<=BQ:=by unfold BQ;omega
 unfold avT;try dsimp only
 refine ⟨⟨by omega,by omega⟩,fun _=>⟨0,⟨⟨rfl,rfl,rfl,rfl⟩,rfl,⟨rfl,rfl⟩,rfl⟩,ia _,fun i hi hLx=>aH (fun h=>?_) fun h=>?_⟩⟩
 ·have cw:i<x.length:=by omega
  have e5:(([]:List Rat).append (x.getD ((i:Nat):Int).toNat [])).length=al x:=m3 i cw;have ef:(([]:List Rat).append (x.getD ((i:Nat):Int).toNat [])).append [((1:Int):Rat)]=aA (al x+1) (ab5 (al x) (el x) i):=by
   show x.getD i []++[((1:Int):Rat)]=_;rw [tI];congr 1
   ·exact vt 0 (m3 i cw) fun j hj=>(aqv (X:=el x) (i:=i) hj).symm
   ·rw [arn];rfl
  rw [e5,ef,mX];exact ⟨⟨by omega,h⟩,by show 0+(x.getD i []).length<=aB;rw [m3 i cw];unfold aB;omega,by unfold ax;omega,by simp;unfold aB;omega,by simp;unfold aB;omega,by unfold ax;omega,i+1,⟨⟨rfl,rfl,rfl,rfl⟩,rfl,⟨rfl,rfl⟩,eD rfl⟩,by omega,by omega⟩
 have ei:i=x.length:=by omega
 subst ei;rw [awG,avC m1];refine ⟨⟨qY (ats m1) (atp m1) (aud.trans (mkM_len ..).symm),hT.abg⟩,0,⟨⟨rfl,rfl,rfl,rfl⟩,rfl,⟨rfl,rfl⟩,by rw [aqP],awN m1⟩,ia _,fun i hi=>aH (fun h1=>?_) fun h1=>?_⟩
 ·have cw:i<al x:=by omega
  have hm:i<al x+1:=by omega
  have o1:(aA (al x+1) fun t=>t).getD ((i:Nat):Int).toNat 0=i:=fW hm 0;rw [o1,na hm,mX,mX,mkM_len,show ((i:Nat):Int).toNat=i from rfl,fW hm];refine ⟨⟨by omega,by omega⟩,hm,⟨by omega,by omega⟩,hm,⟨hm,by omega,by omega⟩,⟨hm,hm⟩,⟨(ayD hT hr i i i).le (by unfold BQ;omega),hr.le hB⟩,⟨hm,by omega,by omega⟩,⟨hm,hm⟩,by unfold ax;omega,i+1,⟨⟨rfl,rfl,rfl,rfl⟩,rfl,⟨rfl,rfl⟩,rfl,(awK hm hm _).trans (jn fun a b _ _=>?_)⟩,by omega,by omega⟩;unfold apE;by_cases e:a=i/\b=i
  ·obtain ⟨rfl,rfl⟩:=e;rw [gU ⟨rfl,rfl⟩,fh (by omega),gU ⟨rfl,by omega⟩]
  ·rw [fh e];by_cases e2:a=b/\a<i
   ·rw [gU e2,gU ⟨e2.1,by omega⟩]
   ·rw [fh e2,fh (by omega)]
 ·have e:i=al x:=by omega
  subst e;have eA:aG (al x+1) (al x+1) (apE x.length (al x) (el x) r (al x))=aM x r:=jn fun a b _ _=>awP _
  rw [ave hT,eA];refine ⟨fun i hi=>avf hT hi,(),⟨⟨rfl,rfl⟩,⟨rfl,rfl⟩,rfl,rfl⟩,trivial,fun _ _=>?_⟩;rw [show List.map (fun p=>(aM x r).getD p []) (aA (al x+1) fun t=>t)=aM x r from map_id _];rw [inv_eq hf,avh (y:=y),hf];refine ⟨⟨avg,by rw [aqE];omega,hT.inv2 hr⟩,(),⟨⟨rfl,rfl,rfl,rfl⟩,rfl,rfl⟩,trivial,fun _ _=>?_⟩;exact ⟨⟨rfl,rfl⟩,rfl⟩
theorem ayf:ah (cfg []) ayI:=cf ayE bp Tryz.func12 (by kernel_rfl) fun args g r hn hc hg hf=>by
 replace hc:avS args=some (g,r,hn):=hc;unfold avS at hc;split at hc
 ·obtain ⟨rfl,rfl,rfl⟩:=aN hc;cases aY (ayd _ _ _) (aye _ _ _ hg hf);exact ⟨rfl,by kernel_rfl,_,by assumption⟩
 ·cases hc
noncomputable def LU8:List az:=xV::aa7::xX::CE::ND::Ke::[]
theorem avV:bd LU8:=⟨uw,WL,yY,xS,KP,z7,trivial⟩
def fuInLine:List AV->Option (Option Prop×AV×List Ob)
 | [.agg (.cons (.k (.list .rq) W) (.cons (.k .rq B) .nil))]=>some (some (SL BQ W/\Sq BQ B),.agg (.cons (.k (.list .q) W) (.cons (.k .q B) .nil)),[])
 | _=>none
def auI:az:=⟨16,false,fuInLine⟩
def awQ (W:List Rat) ( B:Rat):bk:=⟨fun key_=>match key_ with | 1=>5 | _=>0,nL,nR,nU⟩
def avD (W:List Rat) ( B:Rat):Prop:=SL BQ W/\Sq BQ B/\W=W/\B=B
theorem avW (W:List Rat) ( B:Rat):aw LU8 [] (awQ W B) Tryz.f16 (.agg (.cons (.k (.list .q) W) (.cons (.k .q B) .nil))) [.agg (.cons (.k (.list .rq) W) (.cons (.k .rq B) .nil))]=avD W B:=by kernel_rfl
theorem avX (W:List Rat) ( B:Rat) (hg:SL BQ W/\Sq BQ B):avD W B:=by exact ⟨hg.1,hg.2,rfl,rfl⟩
theorem auv:ah (cfg []) auI:=cf avV bp Tryz.func16 (by kernel_rfl) fun args g r hn hc hg hf=>by
 replace hc:fuInLine args=some (g,r,hn):=hc;unfold fuInLine at hc;split at hc
 ·obtain ⟨rfl,rfl,rfl⟩:=aN hc;cases aY (avW _ _) (avX _ _ hg);exact ⟨rfl,by kernel_rfl,_,by assumption⟩
 ·cases hc
def fuSameLine:List AV->Option (Option Prop×AV×List Ob)
 | [.agg (.cons (.k (.list .q) W) (.cons (.k .q B) .nil)),.agg (.cons (.k (.list .rq) V) (.cons (.k .rq A) .nil))]=>some (some ((SL BQ W/\SL BQ V)/\Sq BQ B/\Sq BQ A),.k .bool (bif decide (W=V) then decide (B=A) else false),[])
 | _=>none
def att:az:=⟨13,false,fuSameLine⟩
def avw (W:List Rat) ( B:Rat) (V:List Rat) ( A:Rat):bk:=⟨nU,nL,nR,nU⟩
def atu (W:List Rat) ( B:Rat) (V:List Rat) ( A:Rat):Prop:=(SL BQ W/\SL BQ V)/\bif decide (W=V) then (Sq BQ B/\Sq BQ A)/\decide (B=A)=bif decide (W=V) then decide (B=A) else false else false=bif decide (W=V)
 then decide (B=A) else false
theorem avi (W:List Rat) ( B:Rat) (V:List Rat) ( A:Rat):aw LU8 [] (avw W B V A) Tryz.f13 (.k .bool (bif decide (W=V) then decide (B=A) else false)) [.agg (.cons (.k (.list .q) W) (.cons (.k .q B) .nil)),.agg (.cons (.k (.list .rq) V) (.cons (.k .rq A) .nil))]=atu W B V A:=by kernel_rfl
theorem avj (W:List Rat) ( B:Rat) (V:List Rat) ( A:Rat) (hg:(SL BQ W/\SL BQ V)/\Sq BQ B/\Sq BQ A):atu W B V A:=by
 obtain ⟨h1,h2⟩:=hg;unfold atu;refine ⟨h1,?_⟩
 cases decide (W=V) with
 | true=>exact ⟨h2,rfl⟩
 | false=>rfl
theorem atv:ah (cfg []) att:=cf avV bp Tryz.func13 (by kernel_rfl) fun args g r hn hc hg hf=>by
 replace hc:fuSameLine args=some (g,r,hn):=hc;unfold fuSameLine at hc;split at hc
 ·obtain ⟨rfl,rfl,rfl⟩:=aN hc;cases aY (avi _ _ _ _) (avj _ _ _ _ hg);exact ⟨rfl,by kernel_rfl,_,by assumption⟩
 ·cases hc
def fuSame:List AV->Option (Option Prop×AV×List Ob)
 | [.agg (.cons (.k (.list .q) W) (.cons (.k .q B) .nil)),.agg (.cons (.k (.list .q) V) (.cons (.k .q A) .nil))]=>some (some ((SL BQ W/\SL BQ V)/\Sq BQ B/\Sq BQ A),.k .bool (bif decide (W=V) then decide (B=A) else false),[])
 | _=>none
def avZ:az:=⟨24,false,fuSame⟩
def ay7 (W:List Rat) ( B:Rat) (V:List Rat) ( A:Rat):bk:=⟨nU,nL,nR,nU⟩
def av7 (W:List Rat) ( B:Rat) (V:List Rat) ( A:Rat):Prop:=(SL BQ W/\SL BQ V)/\bif decide (W=V) then (Sq BQ B/\Sq BQ A)/\decide (fS B A=0)=bif decide (W=V) then decide (B=A) else false else false=bif
 decide (W=V) then decide (B=A) else false
theorem ayg (W:List Rat) ( B:Rat) (V:List Rat) ( A:Rat):aw LU8 [] (ay7 W B V A) Tryz.f24 (.k .bool (bif decide (W=V) then decide (B=A) else false)) [.agg (.cons (.k (.list .q) W) (.cons (.k .q B) .nil)),.agg (.cons (.k (.list .q) V) (.cons (.k .q A) .nil))]=av7 W B V A:=by kernel_rfl
theorem ayr (W:List Rat) ( B:Rat) (V:List Rat) ( A:Rat) (hg:(SL BQ W/\SL BQ V)/\Sq BQ B/\Sq BQ A):av7 W B V A:=by
 obtain ⟨h1,h2⟩:=hg;unfold av7;refine ⟨h1,?_⟩
 cases decide (W=V) with
 | true=>exact ⟨h2,GA.2 gz⟩
 | false=>rfl
theorem avk:ah (cfg []) avZ:=cf avV bp Tryz.func24 (by kernel_rfl) fun args g r hn hc hg hf=>by
 replace hc:fuSame args=some (g,r,hn):=hc;unfold fuSame at hc;split at hc
 ·obtain ⟨rfl,rfl,rfl⟩:=aN hc;cases aY (ayg _ _ _ _) (ayr _ _ _ _ hg);exact ⟨rfl,by kernel_rfl,_,by assumption⟩
 ·cases hc
def zW (l:List Int) (n w:Int) (o:List Int):List Rat:=aA (al (abK l n w)) (cE o)
def zB (r:Int):Rat:=hR (Int.tdiv r 3)
def aqS (l:List Int) (n w r:Int) (o:List Int):Rat:=agN (abK l n w).length (al (abK l n w)) (el (abK l n w)) (yF (ab0 l n w)) (hR r) (lnF (zW l n w o) (zB r))
def aql (l:List Int) (n w r:Int) (o:List Int):List Rat:=aA (al (abK l n w)) (apx (abK l n w).length (al (abK l n w)) (el (abK l n w)) (yF (ab0 l n w)) (hR r) (lnF (zW l n w o) (zB r)))
def aqm (l:List Int) (n w r:Int) (o:List Int):Rat:=apo (abK l n w).length (al (abK l n w)) (el (abK l n w)) (yF (ab0 l n w)) (lnF (zW l n w o) (zB r))
def zAt (l:List Int) (n w r:Int) (o:List Int):Rat:=dW (zW l n w o) ((abK l n w).getD 0 [])+zB r
theorem av9 (l:List Int) (n w:Int) (o:List Int):(zW l n w o).length=al (abK l n w):=mX ..
theorem azF (l:List Int) (n w r:Int) (o:List Int):Lin (abK l n w) (zW l n w o) (zB r):=⟨mX ..,SL.mk (fun i _=>(WT o i).le (by unfold LB;omega)) (by unfold LB;omega),(KE _).le (by unfold LB;omega)⟩
structure Fz (l:List Int) (n w r:Int) (o:List Int):Prop where
 X:SM BQ (abK l n w)
 Y:SL BQ (ab0 l n w)
 R:Sq BQ (hR r)
 R2:Sq 256 (hR r)
 W:SL BQ (zW l n w o)
 B:Sq BQ (zB r)
 los:Sq BQ (aqS l n w r o)
 slw:SL BQ (aql l n w r o)
 slb:Sq BQ (aqm l n w r o)
 at_:Sq BQ (zAt l n w r o)
 len:((abK l n w).getD 0 []).length=al (abK l n w)
theorem fz (l:List Int) (n w r:Int) (o:List Int):Fz l n w r o:=by
 have hT:=atW l n w;have hL:=azF l n w r o;have hB:(256:Nat)<=BQ:=by unfold BQ;omega
 have nY:Sq 256 (hR r):=(KE r).le (by omega);have n16:=hT.n16;have w3:=hT.w3;refine ⟨hT.sx.le hB,hT.sy.le hB,nY.le hB,nY,hL.sW.le (by unfold LB BQ;omega),hL.sB.le (by unfold LB BQ;omega),(hL.los hT nY n16).le (by unfold BQ;omega),SL.mk (fun j _=>(hL.slw hT nY n16 j).le (by unfold BQ;omega)) BQ1,(hL.slb hT n16).le (by unfold BQ;omega),?_,hT.facts.2.2 0 hT.facts.1⟩;exact (((x4 hL.sW (hT.sx 0)).add hL.sB).le (by have:=fi (LB+256+1) (show (zW l n w o).length<=3 by rw [av9];exact w3);unfold LB BQ at *;omega))
noncomputable def aAc:List az:=asZ::asr::ZY::aa7::Ap::xV::asJ::aoo::ayF::att::cvRowI::auI::asY::asj::auk::aro::as5::atw::CE::xX::avZ::asd::[]
theorem azG:bd aAc:=⟨asR,asu,CH,WL,CL,uw,arM,aof,ayc,atv,asN,auv,asH,aso,atP,arC,as7,ara,xS,yY,avk,ash,trivial⟩
def fjFitsY:List AV->Option (Option Prop×AV×List Ob)
 | [.k (.list (.int .i64)) l,.k (.int .i64) n,.k (.int .i64) w,.k (.int .i64) r,.k (.list (.int .i64)) o]=>some (some (((∀i,ax (l.getD i 0))/\ax n/\ax w/\ax r/\∀i,ax (o.getD i 0))/\(0<=hR r->aoK (abK l n w) (ab0 l n w) (hR r)=true)),.k .bool true,[])
 | _=>none
def azH:az:=⟨3,false,fjFitsY⟩
def ays (l:List Int) (n w r:Int) (o:List Int):bk:=⟨fun key_=>match key_ with | 3=>11 | 10=>13 | 11=>14 | 12=>11 | 14=>51 | _=>0,fun key_=>match key_ with
 | 1000009=>some (⟨Unit,fun _=>[(11,.k (.list (.list .rq)) (abK l n w)),(12,.k (.list .rq) (ab0 l n w)),(13,.pt 13 0 3 0 0),(18,.pt 18 0 4 0 0)],fun _=>[(13,.box 33 (.k .rq (hR r))),(18,.box 55 (.agg (.cons (.k (.list .rq) (aA (al (abK l n w)) (cE o))) (.cons (.k .rq (zB r)) .nil))))],fun _ _=>True,fun _=>0⟩)
 | 1000012=>some (⟨Unit,fun _=>[(11,.k (.list (.list .rq)) (abK l n w)),(12,.k (.list .rq) (ab0 l n w)),(13,.pt 13 0 3 0 0),(18,.pt 18 0 4 0 0),(19,.pt 19 0 5 0 0),(20,.k (.int .i64) (0:Int)),(21,.k (.list .q) (aql l n w r o)),(22,.pt 22 0 5 0 0),(23,.k (.int .i64) (0:Int)),(24,.pt 24 0 5 0 0),(25,.k (.int .i64) (0:Int))],fun _=>[(13,.box 33 (.k .rq (hR r))),(18,.box 55 (.agg (.cons (.k (.list .rq) (aA (al (abK l n w)) (cE o))) (.cons (.k .rq (zB r)) .nil)))),(19,.box 42 (.k .q (aqS l n w r o))),(22,.box 42 (.k .q (aqm l n w r o))),(24,.box 42 (.k .q (zAt l n w r o)))],fun _ _=>True,fun _=>0⟩)
 | 1000013=>some (⟨Unit,fun _=>[(11,.k (.list (.list .rq)) (abK l n w)),(12,.k (.list .rq) (ab0 l n w)),(13,.pt 13 0 3 0 0),(18,.pt 18 0 4 0 0),(19,.pt 19 0 5 0 0),(20,.k (.int .i64) (0:Int)),(21,.k (.list .q) (aql l n w r o)),(22,.pt 22 0 5 0 0),(23,.k (.int .i64) (0:Int)),(24,.pt 24 0 5 0 0),(25,.k (.int .i64) (0:Int)),(26,.k (.list .rq) (aql l n w r o)),(27,.pt 27 0 3 0 0)],fun _=>[(13,.box 33 (.k .rq (hR r))),(18,.box 55 (.agg (.cons (.k (.list .rq) (aA (al (abK l n w)) (cE o))) (.cons (.k .rq (zB r)) .nil)))),(19,.box 42 (.k .q (aqS l n w r o))),(22,.box 42 (.k .q (aqm l n w r o))),(24,.box 42 (.k .q (zAt l n w r o))),(27,.box 33 (.k .rq (aqm l n w r o)))],fun _ _=>True,fun _=>0⟩) | _=>none,nR,nU⟩
def avl (l:List Int) (n w r:Int) (o:List Int):Prop:=
 let t1:=al (abK l n w);
 let t2:=aA t1 (cE o);
 let t3:=(abK l n w).getD (Int.toNat (0:Int)) [];
 let t4:=aga (abK l n w) (ab0 l n w) (hR r);
 let t5:=apx (abK l n w).length t1 (el (abK l n w)) (yF (ab0 l n w)) (hR r) (lnF t2 (zB r));
 ((∀(i:Nat),ax (l.getD i 0))/\ax n/\ax w)/\ax r/\SM BQ (abK l n w)/\SL BQ (ab0 l n w)/\Sq BQ (hR r)/\(Trn (abK l n w) (ab0 l n w)/\Sq (256
 : Nat) (hR r))/\bif decide ((hR r).num.sign<0) then bif decide (apq (abK l n w) (ab0 l n w) (hR r)=(1:Int)) then t4.length<=aB->decide ((↑t4.length :
 Int)=0)=true else false=true else (Trn (abK l n w) (ab0 l n w)/\Sq (256:Nat) (hR r)/\(0:Rat)<=hR r/\aoK (abK l n w) (ab0 l n w) (hR r)=true)
 /\ bif !decide (apq (abK l n w) (ab0 l n w) (hR r)=0) then false=true else ((SL BQ t4/\SL BQ t4)/\Sq BQ (aci (abK l n w) (ab0 l n w) (hR r))/\Sq BQ
 (aci (abK l n w) (ab0 l n w) (hR r)))/\bif !bif decide (aga (abK l n w) (ab0 l n w) (hR r)=aga (abK l n w) (ab0 l n w) (hR r)) then decide (aci (abK l n w)
 (ab0 l n w) (hR r)=aci (abK l n w) (ab0 l n w) (hR r)) else false then false=true else ((0:Int)<=(0:Int)/\(0:Int)<(↑(abK l n w).length:Int)) /\
 (t3.length<=aB->((∀(i:Nat),ax (o.getD i 0))/\0<=(↑t3.length:Int)/\(↑t3.length:Int)<=(1000000:Int))/\((3:Int)≠(0:Int)/\ax
 (r.tdiv (3:Int)))/\ax (r.tdiv (3:Int))/\∃(x0:Unit),((abK l n w=abK l n w/\ab0 l n w=ab0 l n w)/\hR r=hR r/\aA (↑t3.length:Int).toNat (cE o)
 = aA t1 (cE o)/\hR (r.tdiv (3:Int))=zB r)/\True/\∀(x:Unit),True->(SL BQ t2/\Sq BQ (zB r))/\SM BQ (abK l n w)/\SL BQ (ab0 l n w)/\Sq BQ (hR r)/\(Trn
 (abK l n w) (ab0 l n w)/\Lin (abK l n w) t2 (zB r)/\Sq (256:Nat) (hR r)/\(0:Rat)<=hR r)/\(SL BQ t2/\Sq BQ (zB r))/\SM BQ (abK l n w)/\SL BQ (ab0 l n w) /\
 Sq BQ (hR r)/\(Trn (abK l n w) (ab0 l n w)/\Lin (abK l n w) t2 (zB r)/\Sq (256:Nat) (hR r)/\(0:Rat)<=hR r)/\(SL BQ t2/\Sq BQ (zB r))/\((0:Int)<=(0 :
 Int)/\(0:Int)<(↑(abK l n w).length:Int))/\SL BQ t3/\(((1:Nat)<=t2.length/\t2.length<=(3:Nat)/\t2.length=t3.length)/\SL LB t2/\Sq LB (zB r)/\SL (256
 : Nat) t3)/\∃(x0:Unit),((abK l n w=abK l n w/\ab0 l n w=ab0 l n w/\(0:Int)=(0:Int)/\aA t1 t5=aql l n w r o/\(0:Int)=(0:Int)/\(0:Int) =
 (0:Int))/\hR r=hR r/\(aA t1 (cE o)=aA t1 (cE o)/\zB r=zB r)/\agN (abK l n w).length t1 (el (abK l n w)) (yF (ab0 l n w)) (hR r) (lnF t2 (zB r)) =
 aqS l n w r o/\apo (abK l n w).length t1 (el (abK l n w)) (yF (ab0 l n w)) (lnF t2 (zB r))=aqm l n w r o/\dW t2 t3+zB r=zAt l n w r o)/\True/\∀(x :
 Unit),True->(Trn (abK l n w) (ab0 l n w)/\Lin (abK l n w) t2 (zB r)/\Sq (256:Nat) (hR r))/\∃(x0:Unit),((abK l n w=abK l n w/\ab0 l n w=ab0 l n w /\
 (0:Int)=(0:Int)/\aql l n w r o=aql l n w r o/\(0:Int)=(0:Int)/\(0:Int)=(0:Int)/\aA t1 t5=aql l n w r o)/\hR r=hR r/\(aA t1 (cE o) =
 aA t1 (cE o)/\zB r=zB r)/\aqS l n w r o=aqS l n w r o/\aqm l n w r o=aqm l n w r o/\zAt l n w r o=zAt l n w r o/\apo (abK l n w).length t1 (el (abK
 l n w)) (yF (ab0 l n w)) (lnF t2 (zB r))=aqm l n w r o)/\True/\∀(x:Unit),True->(Trn (abK l n w) (ab0 l n w)/\Lin (abK l n w) t2 (zB r)/\Sq (256:Nat) (hR
 r))/\(Sq BQ (aqS l n w r o)/\Sq BQ (agN (abK l n w).length t1 (el (abK l n w)) (yF (ab0 l n w)) (hR r) (lnF t2 (zB r))))/\bif decide (aqS l n w r o=agN (abK
 l n w).length t1 (el (abK l n w)) (yF (ab0 l n w)) (hR r) (lnF t2 (zB r))) then (SL BQ (aql l n w r o)/\SL BQ (aql l n w r o))/\bif decide (aql l n w r o=aql l
 n w r o) then (Sq BQ (aqm l n w r o)/\Sq BQ (aqm l n w r o))/\bif decide (aqm l n w r o=aqm l n w r o) then ((0:Int)<=(0:Int)/\(0:Int)<(↑(abK l n
 w).length:Int))/\((t2.length<=(3:Nat)/\t2.length=t3.length)/\SL LB t2/\Sq LB (zB r)/\SL (256:Nat) t3)/\(Sq BQ (zAt l n w r o)/\Sq BQ (dW t2 t3+zB r))
 /\ bif decide (zAt l n w r o=dW t2 t3+zB r) then (SL BQ t2/\Sq BQ (zB r))/\(SL BQ t2/\Sq BQ (zB r))/\((SL BQ t2/\SL BQ t2)/\Sq BQ (zB r)/\Sq BQ (zB r))/\bif
 bif decide (aA t1 (cE o)=aA t1 (cE o)) then decide (zB r=zB r) else false then (SL BQ t2/\Sq BQ (zB r))/\((1:Nat)<=t2.length/\t2.length<=(20:Nat)) /\
 decide ((0:Int)=0)=true else false=true else false=true else false=true else false=true else false=true)
theorem awR (l:List Int) (n w r:Int) (o:List Int):aw aAc [] (ays l n w r o) Tryz.f3 (.k .bool true) [.k (.list (.int .i64)) l,.k (.int .i64) n,.k (.int .i64) w,.k (.int .i64) r,.k (.list (.int .i64)) o]=avl l n w r o:=by kernel_rfl
theorem awT (l:List Int) (n w r:Int) (o:List Int) (hg:((∀i,ax (l.getD i 0))/\ax n/\ax w/\ax r/\∀i,ax (o.getD i 0))/\(0<=hR r->aoK (abK l n w) (ab0 l n w) (hR r)=true)) (hf:cJ [.k (.list (.int .i64)) l,.k (.int .i64) n,.k (.int .i64) w,.k (.int .i64) r,.k (.list (.int .i64)) o]):avl l n w r o:=by
 obtain ⟨⟨hl,hn,hw,hr,ho⟩,hf⟩:=hg;have hT:=atW l n w;have hL:=azF l n w r o;have z:=fz l n w r o;have m1:=hT.facts.1;have m2:=hT.facts.2.1;have w3:=hT.w3;have i0:(0:Int)<=0/\(0:Int)<(((abK l n w).length:Nat):Int):=by omega
 have t3:ax (r.tdiv 3):=by
  unfold ax at hr ⊢;rcases Int.le_total 0 r with h | h
  ·rw [Cn h];omega
  ·have:=Int.neg_tdiv (-r) 3;rw [Int.neg_neg,Cn (show 0 <= -r by omega)] at this;omega
 unfold avl;dsimp only;rw [show (abK l n w).getD (Int.toNat 0) []=(abK l n w).getD 0 [] from rfl,z.len,show aA (al (abK l n w)) (cE o)=zW l n w o from rfl,av9];refine ⟨⟨hl,hn,hw⟩,hr,z.X,z.Y,z.R,⟨hT,z.R2⟩,aH (fun h=>?_) fun h=>?_⟩
 ·have azI:(hR r).num<0:=by
   rcases G2 (hR r).num 0 with h1 | h1 | h1
   ·exact h1
   ·rw [h1] at h;exact absurd h (by decide)
   ·rw [vu h1] at h;omega
  unfold apq aga;rw [kJ azI];exact aH (fun _ _=>kJ rfl) fun h=>absurd rfl h
 have h0:0<=hR r:=K4.1 (by
  rcases G2 (hR r).num 0 with h1 | h1 | h1
  ·rw [uZ h1] at h;omega
  ·omega
  ·omega)
 have hF:=hf h0;obtain ⟨_,_,f3⟩:=ap9 h0 hF;obtain ⟨g1,g2⟩:=arw hT z.R2 h0 hF;have g1:SL BQ (aga (abK l n w) (ab0 l n w) (hR r)):=g1.le (by unfold BQ;omega);have g2:Sq BQ (aci (abK l n w) (ab0 l n w) (hR r)):=g2.le (by unfold BQ;omega);rw [f3];refine ⟨⟨hT,z.R2,h0,hF⟩,dP (fun h=>absurd rfl h) fun _=>⟨⟨⟨g1,g1⟩,g2,g2⟩,en (fun h=>by rw [kJ rfl,jo,kJ rfl] at h;cases h) fun _=>?_⟩⟩;have b1:SL BQ (zW l n w o)/\Sq BQ (zB r):=⟨z.W,z.B⟩
 have q1:Trn (abK l n w) (ab0 l n w)/\Lin (abK l n w) (zW l n w o) (zB r)/\Sq 256 (hR r)/\0<=hR r:=⟨hT,hL,z.R2,h0⟩
 have q2:Trn (abK l n w) (ab0 l n w)/\Lin (abK l n w) (zW l n w o) (zB r)/\Sq 256 (hR r):=⟨hT,hL,z.R2⟩
 have x0:SL 256 ((abK l n w).getD 0 []):=hT.sx 0;refine ⟨i0,fun _=>⟨⟨ho,by omega,by omega⟩,⟨by omega,t3⟩,t3,(),(by repeat' first | exact rfl | apply And.intro),trivial,fun _ _=>⟨b1,z.X,z.Y,z.R,q1,b1,z.X,z.Y,z.R,q1,b1,i0,x0.le (by unfold BQ;omega),⟨⟨by omega,w3,rfl⟩,hL.sW,hL.sB,x0⟩,(),(by repeat' first | exact rfl | apply And.intro),trivial,fun _ _=>⟨q2,(),(by repeat' first | exact rfl | apply And.intro),trivial,fun _ _=>⟨q2,⟨z.los,z.los⟩,aH (fun _=>⟨⟨z.slw,z.slw⟩,aH (fun _=>⟨⟨z.slb,z.slb⟩,aH (fun _=>⟨i0,⟨⟨w3,rfl⟩,hL.sW,hL.sB,x0⟩,⟨z.at_,z.at_⟩,aH (fun _=>⟨b1,b1,⟨⟨z.W,z.W⟩,z.B,z.B⟩,nC (fun _=>⟨b1,⟨by omega,by omega⟩,kJ rfl⟩) fun h=>by rw [kJ rfl,jo,kJ rfl] at h;cases h⟩) fun h=>absurd rfl h⟩) fun h=>absurd rfl h⟩) fun h=>absurd rfl h⟩) fun h=>absurd rfl h⟩⟩⟩⟩⟩
theorem auK:ah (cfg []) azH:=cf azG bp Tryz.func3 (by kernel_rfl) fun args g r hn hc hg hf=>by
 replace hc:fjFitsY args=some (g,r,hn):=hc;unfold fjFitsY at hc;split at hc
 ·obtain ⟨rfl,rfl,rfl⟩:=aN hc;cases aY (awR _ _ _ _ _) (awT _ _ _ _ _ hg hf);exact ⟨rfl,by kernel_rfl,_,by assumption⟩
 ·cases hc
noncomputable def aAm:List az:=asZ::asr::ZY::aa7::Ap::xV::asJ::aoo::ayI::att::cvRowI::auI::asY::asj::auk::aro::as5::atw::CE::xX::avZ::asd::[]
theorem azJ:bd aAm:=⟨asR,asu,CH,WL,CL,uw,arM,aof,ayf,atv,asN,auv,asH,aso,atP,arC,as7,ara,xS,yY,avk,ash,trivial⟩
def avm:List AV->Option (Option Prop×AV×List Ob)
 | [.k (.list (.int .i64)) l,.k (.int .i64) n,.k (.int .i64) w,.k (.int .i64) r,.k (.list (.int .i64)) o]=>some (some (((∀i,ax (l.getD i 0))/\ax n/\ax w/\ax r/\∀i,ax (o.getD i 0))/\(0<=hR r->aoK (abK l n w) (ab0 l n w) (hR r)=false)),.k .bool true,[])
 | _=>none
def azP:az:=⟨3,false,avm⟩
def ayA (l:List Int) (n w r:Int) (o:List Int):bk:=⟨fun key_=>match key_ with | 3=>11 | 10=>13 | 11=>14 | 12=>11 | 14=>51 | _=>0,fun key_=>match key_ with
 | 1000009=>some (⟨Unit,fun _=>[(11,.k (.list (.list .rq)) (abK l n w)),(12,.k (.list .rq) (ab0 l n w)),(13,.pt 13 0 3 0 0),(18,.pt 18 0 4 0 0)],fun _=>[(13,.box 33 (.k .rq (hR r))),(18,.box 55 (.agg (.cons (.k (.list .rq) (aA (al (abK l n w)) (cE o))) (.cons (.k .rq (zB r)) .nil))))],fun _ _=>True,fun _=>0⟩)
 | 1000012=>some (⟨Unit,fun _=>[(11,.k (.list (.list .rq)) (abK l n w)),(12,.k (.list .rq) (ab0 l n w)),(13,.pt 13 0 3 0 0),(18,.pt 18 0 4 0 0),(19,.pt 19 0 5 0 0),(20,.k (.int .i64) (0:Int)),(21,.k (.list .q) (aql l n w r o)),(22,.pt 22 0 5 0 0),(23,.k (.int .i64) (0:Int)),(24,.pt 24 0 5 0 0),(25,.k (.int .i64) (0:Int))],fun _=>[(13,.box 33 (.k .rq (hR r))),(18,.box 55 (.agg (.cons (.k (.list .rq) (aA (al (abK l n w)) (cE o))) (.cons (.k .rq (zB r)) .nil)))),(19,.box 42 (.k .q (aqS l n w r o))),(22,.box 42 (.k .q (aqm l n w r o))),(24,.box 42 (.k .q (zAt l n w r o)))],fun _ _=>True,fun _=>0⟩)
 | 1000013=>some (⟨Unit,fun _=>[(11,.k (.list (.list .rq)) (abK l n w)),(12,.k (.list .rq) (ab0 l n w)),(13,.pt 13 0 3 0 0),(18,.pt 18 0 4 0 0),(19,.pt 19 0 5 0 0),(20,.k (.int .i64) (0:Int)),(21,.k (.list .q) (aql l n w r o)),(22,.pt 22 0 5 0 0),(23,.k (.int .i64) (0:Int)),(24,.pt 24 0 5 0 0),(25,.k (.int .i64) (0:Int)),(26,.k (.list .rq) (aql l n w r o)),(27,.pt 27 0 3 0 0)],fun _=>[(13,.box 33 (.k .rq (hR r))),(18,.box 55 (.agg (.cons (.k (.list .rq) (aA (al (abK l n w)) (cE o))) (.cons (.k .rq (zB r)) .nil)))),(19,.box 42 (.k .q (aqS l n w r o))),(22,.box 42 (.k .q (aqm l n w r o))),(24,.box 42 (.k .q (zAt l n w r o))),(27,.box 33 (.k .rq (aqm l n w r o)))],fun _ _=>True,fun _=>0⟩) | _=>none,nR,nU⟩
def avt (l:List Int) (n w r:Int) (o:List Int):Prop:=
 let t1:=al (abK l n w);
 let t2:=aA t1 (cE o);
 let t3:=(abK l n w).getD (Int.toNat (0:Int)) [];
 let t4:=apx (abK l n w).length t1 (el (abK l n w)) (yF (ab0 l n w)) (hR r) (lnF t2 (zB r));
 ((∀(i:Nat),ax (l.getD i 0))/\ax n/\ax w)/\ax r/\SM BQ (abK l n w)/\SL BQ (ab0 l n w)/\Sq BQ (hR r)/\(Trn (abK l n w) (ab0 l n w)/\Sq (256
 : Nat) (hR r))/\bif decide ((hR r).num.sign<0) then bif decide (apq (abK l n w) (ab0 l n w) (hR r)=(1:Int)) then (aga (abK l n w) (ab0 l n w) (hR
 r)).length<=aB->decide ((↑(aga (abK l n w) (ab0 l n w) (hR r)).length:Int)=0)=true else false=true else (Trn (abK l n w) (ab0 l n w)/\Sq (256 :
 Nat) (hR r)/\(0:Rat)<=hR r/\aoK (abK l n w) (ab0 l n w) (hR r)=false)/\bif !decide (apq (abK l n w) (ab0 l n w) (hR r)=(9:Int)) then false=true else
 ((0:Int)<=(0:Int)/\(0:Int)<(↑(abK l n w).length:Int))/\(t3.length<=aB->((∀(i:Nat),ax (o.getD i 0))/\0<=(↑t3.length:Int) /\
 (↑t3.length:Int)<=(1000000:Int))/\((3:Int)≠(0:Int)/\ax (r.tdiv (3:Int)))/\ax (r.tdiv (3:Int))/\∃(x0:Unit),((abK l n w=abK l n w/\ab0 l n
 w=ab0 l n w)/\hR r=hR r/\aA (↑t3.length:Int).toNat (cE o)=aA t1 (cE o)/\hR (r.tdiv (3:Int))=zB r)/\True/\∀(x:Unit),True->(SL BQ t2/\Sq BQ
 (zB r))/\SM BQ (abK l n w)/\SL BQ (ab0 l n w)/\Sq BQ (hR r)/\(Trn (abK l n w) (ab0 l n w)/\Lin (abK l n w) t2 (zB r)/\Sq (256:Nat) (hR r)/\(0:Rat)<=hR r)
 /\ (SL BQ t2/\Sq BQ (zB r))/\SM BQ (abK l n w)/\SL BQ (ab0 l n w)/\Sq BQ (hR r)/\(Trn (abK l n w) (ab0 l n w)/\Lin (abK l n w) t2 (zB r)/\Sq (256:Nat) (hR r)
 /\ (0:Rat)<=hR r)/\(SL BQ t2/\Sq BQ (zB r))/\((0:Int)<=(0:Int)/\(0:Int)<(↑(abK l n w).length:Int))/\SL BQ t3/\(((1:Nat)<=t2.length/\t2.length<=(3
 : Nat)/\t2.length=t3.length)/\SL LB t2/\Sq LB (zB r)/\SL (256:Nat) t3)/\∃(x0:Unit),((abK l n w=abK l n w/\ab0 l n w=ab0 l n w/\(0:Int)=(0 :
 Int)/\aA t1 t4=aql l n w r o/\(0:Int)=(0:Int)/\(0:Int)=0)/\hR r=hR r/\(aA t1 (cE o)=aA t1 (cE o)/\zB r=zB r)/\agN (abK l n
 w).length t1 (el (abK l n w)) (yF (ab0 l n w)) (hR r) (lnF t2 (zB r))=aqS l n w r o/\apo (abK l n w).length t1 (el (abK l n w)) (yF (ab0 l n w)) (lnF t2 (zB r))
 = aqm l n w r o/\dW t2 t3+zB r=zAt l n w r o)/\True/\∀(x:Unit),True->(Trn (abK l n w) (ab0 l n w)/\Lin (abK l n w) t2 (zB r)/\Sq (256:Nat) (hR r)) /\
 ∃(x0:Unit),((abK l n w=abK l n w/\ab0 l n w=ab0 l n w/\(0:Int)=(0:Int)/\aql l n w r o=aql l n w r o/\(0:Int)=(0:Int)/\(0:Int)=(0 :
 Int)/\aA t1 t4=aql l n w r o)/\hR r=hR r/\(aA t1 (cE o)=aA t1 (cE o)/\zB r=zB r)/\aqS l n w r o=aqS l n w r o/\aqm l n w r o=aqm l n w r o /\
 zAt l n w r o=zAt l n w r o/\apo (abK l n w).length t1 (el (abK l n w)) (yF (ab0 l n w)) (lnF t2 (zB r))=aqm l n w r o)/\True/\∀(x:Unit),True->(Trn (abK
 l n w) (ab0 l n w)/\Lin (abK l n w) t2 (zB r)/\Sq (256:Nat) (hR r))/\(Sq BQ (aqS l n w r o)/\Sq BQ (agN (abK l n w).length t1 (el (abK l n w)) (yF (ab0 l n
 w)) (hR r) (lnF t2 (zB r))))/\bif decide (aqS l n w r o=agN (abK l n w).length t1 (el (abK l n w)) (yF (ab0 l n w)) (hR r) (lnF t2 (zB r))) then (SL BQ (aql l n
 w r o)/\SL BQ (aql l n w r o))/\bif decide (aql l n w r o=aql l n w r o) then (Sq BQ (aqm l n w r o)/\Sq BQ (aqm l n w r o))/\bif decide (aqm l n w r o=aqm
 l n w r o) then ((0:Int)<=(0:Int)/\(0:Int)<(↑(abK l n w).length:Int))/\((t2.length<=(3:Nat)/\t2.length=t3.length)/\SL LB t2/\Sq LB (zB r)/\SL (256
 : Nat) t3)/\(Sq BQ (zAt l n w r o)/\Sq BQ (dW t2 t3+zB r))/\bif decide (zAt l n w r o=dW t2 t3+zB r) then (SL BQ t2/\Sq BQ (zB r))/\(SL BQ t2/\Sq BQ (zB
 r))/\((SL BQ t2/\SL BQ t2)/\Sq BQ (zB r)/\Sq BQ (zB r))/\bif bif decide (aA t1 (cE o)=aA t1 (cE o)) then decide (zB r=zB r) else false then (SL BQ t2/\Sq
 BQ (zB r))/\((1:Nat)<=t2.length/\t2.length<=(20:Nat))/\decide ((0:Int)=0)=true else false=true else false=true else false=true else false =
 true else false=true)
theorem awZ (l:List Int) (n w r:Int) (o:List Int):aw aAm [] (ayA l n w r o) Tryz.f3 (.k .bool true) [.k (.list (.int .i64)) l,.k (.int .i64) n,.k (.int .i64) w,.k (.int .i64) r,.k (.list (.int .i64)) o]=avt l n w r o:=by kernel_rfl
theorem aw7 (l:List Int) (n w r:Int) (o:List Int) (hg:((∀i,ax (l.getD i 0))/\ax n/\ax w/\ax r/\∀i,ax (o.getD i 0))/\(0<=hR r->aoK (abK l n w) (ab0 l n w) (hR r)=false)) (hf:cJ [.k (.list (.int .i64)) l,.k (.int .i64) n,.k (.int .i64) w,.k (.int .i64) r,.k (.list (.int .i64)) o]):avt l n w r o:=by
 obtain ⟨⟨hl,hn,hw,hr,ho⟩,hf⟩:=hg;have hT:=atW l n w;have hL:=azF l n w r o;have z:=fz l n w r o;have m1:=hT.facts.1;have m2:=hT.facts.2.1;have w3:=hT.w3;have i0:(0:Int)<=0/\(0:Int)<(((abK l n w).length:Nat):Int):=by omega
 have t3:ax (r.tdiv 3):=by
  unfold ax at hr ⊢;rcases Int.le_total 0 r with h | h
  ·rw [Cn h];omega
  ·have:=Int.neg_tdiv (-r) 3;rw [Int.neg_neg,Cn (show 0 <= -r by omega)] at this;omega
 unfold avt;dsimp only;rw [show (abK l n w).getD (Int.toNat 0) []=(abK l n w).getD 0 [] from rfl,z.len,show aA (al (abK l n w)) (cE o)=zW l n w o from rfl,av9];refine ⟨⟨hl,hn,hw⟩,hr,z.X,z.Y,z.R,⟨hT,z.R2⟩,aH (fun h=>?_) fun h=>?_⟩
 ·have azI:(hR r).num<0:=by
   rcases G2 (hR r).num 0 with h1 | h1 | h1
   ·exact h1
   ·rw [h1] at h;exact absurd h (by decide)
   ·rw [vu h1] at h;omega
  unfold apq aga;rw [kJ azI];exact aH (fun _ _=>kJ rfl) fun h=>absurd rfl h
 have h0:0<=hR r:=K4.1 (by
  rcases G2 (hR r).num 0 with h1 | h1 | h1
  ·rw [uZ h1] at h;omega
  ·omega
  ·omega)
 have hF:=hf h0;obtain ⟨_,_,f3⟩:=atU h0 hF;rw [f3];refine ⟨⟨hT,z.R2,h0,hF⟩,dP (fun h=>absurd rfl h) fun _=>?_⟩;have b1:SL BQ (zW l n w o)/\Sq BQ (zB r):=⟨z.W,z.B⟩
 have q1:Trn (abK l n w) (ab0 l n w)/\Lin (abK l n w) (zW l n w o) (zB r)/\Sq 256 (hR r)/\0<=hR r:=⟨hT,hL,z.R2,h0⟩
 have q2:Trn (abK l n w) (ab0 l n w)/\Lin (abK l n w) (zW l n w o) (zB r)/\Sq 256 (hR r):=⟨hT,hL,z.R2⟩
 have x0:SL 256 ((abK l n w).getD 0 []):=hT.sx 0;refine ⟨i0,fun _=>⟨⟨ho,by omega,by omega⟩,⟨by omega,t3⟩,t3,(),(by repeat' first | exact rfl | apply And.intro),trivial,fun _ _=>⟨b1,z.X,z.Y,z.R,q1,b1,z.X,z.Y,z.R,q1,b1,i0,x0.le (by unfold BQ;omega),⟨⟨by omega,w3,rfl⟩,hL.sW,hL.sB,x0⟩,(),(by repeat' first | exact rfl | apply And.intro),trivial,fun _ _=>⟨q2,(),(by repeat' first | exact rfl | apply And.intro),trivial,fun _ _=>⟨q2,⟨z.los,z.los⟩,aH (fun _=>⟨⟨z.slw,z.slw⟩,aH (fun _=>⟨⟨z.slb,z.slb⟩,aH (fun _=>⟨i0,⟨⟨w3,rfl⟩,hL.sW,hL.sB,x0⟩,⟨z.at_,z.at_⟩,aH (fun _=>⟨b1,b1,⟨⟨z.W,z.W⟩,z.B,z.B⟩,nC (fun _=>⟨b1,⟨by omega,by omega⟩,kJ rfl⟩) fun h=>by rw [kJ rfl,jo,kJ rfl] at h;cases h⟩) fun h=>absurd rfl h⟩) fun h=>absurd rfl h⟩) fun h=>absurd rfl h⟩) fun h=>absurd rfl h⟩⟩⟩⟩⟩
theorem aw8:ah (cfg []) azP:=cf azJ bp Tryz.func3 (by kernel_rfl) fun args g r hn hc hg hf=>by
 replace hc:avm args=some (g,r,hn):=hc;unfold avm at hc;split at hc
 ·obtain ⟨rfl,rfl,rfl⟩:=aN hc;cases aY (awZ _ _ _ _ _) (aw7 _ _ _ _ _ hg hf);exact ⟨rfl,by kernel_rfl,_,by assumption⟩
 ·cases hc
def awb:List AV->Option (Option Prop×AV×List Ob)
 | [.k (.list (.int .i64)) l,.k (.int .i64) n,.k (.int .i64) w,.k (.int .i64) r,.k (.list (.int .i64)) o]=>some (some ((∀i,ax (l.getD i 0))/\ax n/\ax w/\ax r/\∀i,ax (o.getD i 0)),.k .bool true,[])
 | _=>none
def az6:az:=⟨3,false,awb⟩
theorem ayB:ah (cfg []) az6 where
 mu:=auK.mu
 ok args g r hn hc hg F w vs htb mB:=by
  replace hc:awb args=some (g,r,hn):=hc;unfold awb at hc;split at hc
  ·rename_i l n w r o;obtain ⟨rfl,rfl,rfl⟩:=aN hc
   cases hs:aoK (abK l n w) (ab0 l n w) (hR r) with
   | true=>exact auK.ok _ _ _ _ rfl (by exact ⟨hg,fun _=>hs⟩) F _ vs htb mB
   | false=>exact aw8.ok _ _ _ _ rfl (by exact ⟨hg,fun _=>hs⟩) F _ vs htb mB
  ·cases hc
end Go.Proofs.YtbllgkgikaoknaaGreatDoor.AM
namespace Go.Proofs.YtbllgkgikaoknaaGreatDoor
open Go.ChangeShapes Go.WideShapes Go.ChangeAt Go.RowKit AM
noncomputable def aqL (os:Os):World:={ World.holding Tryz.prog os ⟨#[],#[],[]⟩ with heap:=((World.holding Tryz.prog os ⟨#[],#[],[]⟩).heap.modify 2 (OU #[.int .u8 0,.int .u8 1,.int .u8 56,.int .u8 2,.int .u8 57,.int .u8 49,.int .u8 28,.int .u8 3,.int .u8 61,.int .u8 58,.int .u8 42,.int .u8 50,.int .u8 38,.int .u8 29,.int .u8 17,.int .u8 4,.int .u8 62,.int .u8 47,.int .u8 59,.int .u8 36,.int .u8 45,.int .u8 43,.int .u8 51,.int .u8 22,.int .u8 53,.int .u8 39,.int .u8 33,.int .u8 30,.int .u8 24,.int .u8 18,.int .u8 12,.int .u8 5,.int .u8 63,.int .u8 55,.int .u8 48,.int .u8 27,.int .u8 60,.int .u8 41,.int .u8 37,.int .u8 16,.int .u8 46,.int .u8 35,.int .u8 44,.int .u8 21,.int .u8 52,.int .u8 32,.int .u8 23,.int .u8 11,.int .u8 54,.int .u8 26,.int .u8 40,.int .u8 15,.int .u8 34,.int .u8 20,.int .u8 31,.int .u8 10,.int .u8 25,.int .u8 14,.int .u8 19,.int .u8 9,.int .u8 13,.int .u8 8,.int .u8 7,.int .u8 6])) }
theorem auQ {W:World} (h:laidMetH Tryz.prog Rows.quadFitsRow.laid W):cK W:=by
 have h1:laidMet Tryz.prog [("math/bits.deBruijn64tab",Rows.laid_math_bits_deBruijn64tab)] W:=h
 exact EU (by kernel_rfl) h1
theorem auo (H:Type) (enc:TypeId×Value->H) (W:World) (base:Nat) (args:Array Value) (ds gs:List (DataW H)) (before:List MemPlace)
  (fV:∀(j:Nat) t v,Tryz.f3.params[j]? = some t->args[j]? = some v->Value.okWide Tryz.prog W .any base t v)
  (hW:DataW.Whole enc Tryz.prog Tryz.f3.params.toList Rows.quadFitsSpec.vars false W args.toList ds gs before) (aan:cK W) :
  Calls Tryz.prog 3 args W fun e W'=>∃v,e = .returned v/\Rows.quadFitsSpec.post enc Tryz.prog Tryz.f3 false true false false W args v W':=by
 have YR:=hW
 obtain ⟨p,q,hA0,hV,rfl,hfz,hnd⟩:=hW
 have hA:DataW.TrodAll enc Tryz.prog W 0 (fun _=>true) true Tryz.f3.params.toList args.toList ds p:=hA0
 rw [Tryz.params3] at hA fV
 obtain ⟨v0,vs0,d0,ds0,p0,q0,IE,rfl,rfl,h0,r0⟩:=trodAll_cons hA
 obtain ⟨v1,vs1,d1,ds1,p1,q1,rfl,rfl,rfl,h1,r1⟩:=trodAll_cons r0
 obtain ⟨v2,vs2,d2,ds2,p2,q2,rfl,rfl,rfl,h2,r2⟩:=trodAll_cons r1
 obtain ⟨v3,vs3,d3,ds3,p3,q3,rfl,rfl,rfl,h3,r3⟩:=trodAll_cons r2
 obtain ⟨v4,vs4,d4,ds4,p4,q4,rfl,rfl,rfl,h4,r4⟩:=trodAll_cons r3
 obtain ⟨rfl,rfl,rfl⟩:=trodAll_nil r4
 obtain rfl:args = #[v0,v1,v2,v3,v4]:=by cases args;simp_all
 obtain ⟨rfl,rfl⟩:=trodVars_none hV
 obtain ⟨l0,s0,g0⟩:=aet Tryz.underlying22 Tryz.underlying3 (by kernel_rfl) (fV 0 22 v0 rfl rfl) h0
 obtain ⟨a1,rfl,rfl,rfl,w1⟩:=open_int Tryz.underlying3 (fV 1 3 v1 rfl rfl) h1
 obtain ⟨a2,rfl,rfl,rfl,w2⟩:=open_int Tryz.underlying3 (fV 2 3 v2 rfl rfl) h2
 obtain ⟨a3,rfl,rfl,rfl,w3⟩:=open_int Tryz.underlying3 (fV 3 3 v3 rfl rfl) h3
 obtain ⟨l4,s4,g4⟩:=aet Tryz.underlying22 Tryz.underlying3 (by kernel_rfl) (fV 4 22 v4 rfl rfl) h4
 clear hA0
 refine (Mg (args:=[.k (.list (.int .i64)) l0,.k (.int .i64) a1,.k (.int .i64) a2,.k (.int .i64) a3,.k (.list (.int .i64)) l4]) (vs:=[v0,.int .i64 a1,.int .i64 a2,.int .i64 a3,v4]) ayB rfl ⟨g0,wf_i64 w1,wf_i64 w2,wf_i64 w3,g4⟩ aan ⟨s0,(.mkInt _ _),(.mkInt _ _),(.mkInt _ _),s4,trivial⟩).mono fun e W' ⟨he,hg⟩=>?_
 subst he
 exact ⟨_,rfl,OV rfl rfl (fun t ht=>by
  rw [Tryz.params3] at ht;have bB:([22,3,3,3,22].all fun u=>Tryz.prog.readableRec u&&decide (u<Tryz.prog.types.size))=true:=by kernel_rfl
  have:=yw.1 bB t (by simpa using ht);simpa using this) YR ⟨rfl,rfl,rfl⟩ hg⟩
theorem avx (os:Os):laidMet Tryz.prog Rows.quadFitsRow.laid ((aqL os).forCall (fun _ _=>0) ⟨#[],#[.slice none 0 0,.int .i64 0,.int .i64 0,.int .i64 0,.slice none 0 0],[]⟩).memory:=laidMet_of_run' 8 (by kernel_rfl) (by kernel_rfl)
theorem auR (os:Os) {H:Type} (enc:TypeId×Value->H):∃places,DataW.whole enc Tryz.prog ((aqL os).forCall (fun _ _=>0) ⟨#[],#[.slice none 0 0,.int .i64 0,.int .i64 0,.int .i64 0,.slice none 0 0],[]⟩).memory Tryz.f3.params.toList Rows.quadFitsSpec.vars false (#[.slice none 0 0,.int .i64 0,.int .i64 0,.int .i64 0,.slice none 0 0]:Array Value).toList 8=some ([.nil,.lit (.int .i64 0),.lit (.int .i64 0),.lit (.int .i64 0),.nil],[],places):=⟨[],by kernel_rfl⟩
theorem auJ (os:Os) (started:os.Started) (H:Type) (enc:TypeId×Value->H) (F:Stop.Interp) :
  ReturnsInHanded {} Tryz.checked os 3 .any ((OpenSpec.ofChange Rows.quadFitsSpec).preRow enc Tryz.prog Tryz.f3 Rows.quadFitsRow.domain false Rows.quadFitsRow.laid) (((OpenSpec.ofChange Rows.quadFitsSpec).at F).post enc Tryz.prog Tryz.f3 false true false false):=by
 obtain ⟨places,hx⟩:=auR os enc
 refine returnsInHanded_of_row (C:=Tryz.checked) (s:=OpenSpec.ofChange Rows.quadFitsSpec) own started (by kernel_rfl) Tryz.func3
  (witness_row_at (enc:=enc) (C:=Tryz.checked) false (aqL os) #[.slice none 0 0,.int .i64 0,.int .i64 0,.int .i64 0,.slice none 0 0] rfl (by kernel_rfl) (by kernel_rfl) (by kernel_rfl)
   (OpenSpec.preRow_of_cond 8 hx (by kernel_rfl) (fun k hk=>by cases hk) (by kernel_rfl) (avx os))) ?_
 intro W base args ds gs before fV hW _ _ _ hL _ _
 exact auo H enc W base args ds gs before fV hW (auQ hL)
theorem auS:Rows.QuadFitsSaid:=
 OpenClaim.holds_of_cond 3 Tryz.f3 rfl rfl rfl rfl rfl rfl rfl ⟨rfl,rfl,rfl,rfl,rfl⟩ rfl rfl rfl rfl rfl (by kernel_rfl) Tryz.func3 (by kernel_rfl)
  (CY (by kernel_rfl)) (by unfold Func.isWrapper;first | (rw [gU (by decide +kernel)];kernel_rfl) | (rw [fh (by decide +kernel)];exact ⟨rfl,rfl⟩))
  (fun os started H enc _ F=>by rw [OpenClaim.pre_eq_preRow];exact auJ os started H enc F)
theorem auT (f:FuncId) (fn:Func) (hf:Tryz.pinned.checked.prog.funcNamed "abaculus/abaculuslaw12.QuadFits" = some f) (hfn:Tryz.pinned.checked.prog.funcs[f]? = some fn) :
  false=Tryz.pinned.checked.prog.looks []/\∀(j:Nat) t,fn.params[j]? = some t->Tryz.pinned.checked.prog.wantsStandIn t=false:=by
 obtain rfl:f=3:=Option.some.inj ((show Tryz.prog.funcNamed "abaculus/abaculuslaw12.QuadFits" = some 3 by kernel_rfl).symm.trans hf) |>.symm
 obtain rfl:fn=Tryz.f3:=(Option.some.inj (Tryz.func3.symm.trans hfn)).symm
 refine ⟨by kernel_rfl,fun j t ht=>?_⟩
 rw [Tryz.params3] at ht
 have hm:t∈[22,3,3,3,22]:=by simpa using Array.mem_of_getElem? ht
 have bB:([22,3,3,3,22].all fun u=> !Tryz.prog.wantsStandIn u)=true:=by kernel_rfl
 exact (show Tryz.prog.wantsStandIn t=false by simpa using yw.1 bB t hm)
theorem quadFitsCard_holds:Rows.QuadFitsCardSaid:=Claim7.holds_tied_plain_at .later [] _ _ _ _ auS (fun _ h=>by cases h) (by kernel_rfl) (fun _ h=>by cases h) quadFits_row_tie rfl ⟨rfl,rfl⟩ (by kernel_rfl) rfl auT (by kernel_rfl)
#print axioms quadFitsCard_holds
end Go.Proofs.YtbllgkgikaoknaaGreatDoor
