/- PolyKnown: what is known of the square of x, of nil, of literals. Chapter 13's statement PolyKnown, by abstract execution. (Printed by vc.py.) poly: places moved, by abstract execution. (Printed by vc.py.) Polynomials: places moved: the passes; sizes. Polynomials: places moved (p(x + c)). poly: sums, places moved, by abstract execution. (Printed by vc.py.) poly.At: the walk. poly.At: a range over slices.Backward (by hand). poly: products, by abstract execution. (Printed by vc.py.) Chapter 13's statement PolyCommon, by abstract execution. (Printed by vc.py.) Chapter 13's statements: the example, the polynomials of raw numbers, by abstract execution. (Printed by vc.py.) Chapter 10's statements: their numbers, by abstract execution. (Printed by vc.py.) The document's polynomials: trimmed lists, products, by abstract execution. (Printed by vc.py.) -/
import Derived.RangeFuncNested
import Derived.RangeFuncBound
import Derived.RangeFuncCalls
import Derived.RangeFuncLeaves
import Derived.RangeFuncBox
import Derived.WalkKit
import Derived.TacticsInMore
import Derived.LoopNIn
import Derived.LoopIn
import Derived.Shelf.RegionOpen
import Derived.Test.YtcjeabdblhgblaaGreatDoorCards
import Derived.Test.YtcjeabdblhgblaaGreatDoorBd10
set_option maxRecDepth 100000
set_option linter.unusedVariables false
set_option linter.unusedSimpArgs false
set_option maxHeartbeats 8000000
namespace Go.Proofs.YtcjeabdblhgblaaGreatDoor.AM
open Go.RowKit
noncomputable def LP1:List az:=xQ::[]
theorem aGa:bd LP1:=⟨mV,trivial⟩
noncomputable def LP2:List az:=LP1
noncomputable def LP3:List az:=VR::No::[]
theorem aIQ:bd LP3:=⟨PM,aHo,trivial⟩
def foOver:List AV->Option (Option Prop×AV×List Ob)
 | [.k (.int .i64) n,.k (.int .i64) d]=>some (some (ab n/\ab d/\d≠0),T2 (.k .q ((n:Rat)/(d:Rat))) (.k .bool true),[])
 | _=>none
def aGb:az:=⟨32,false,foOver⟩
def aHj (n d:Int):bk:=⟨nU,nL,nR,nU⟩
def aEr (n d:Int):Prop:=ab n/\ab d/\(Sm BZ n.natAbs/\Sm BZ d.natAbs/\d≠(0:Int))/\(↑n:Rat)/(↑d:Rat)=(↑n:Rat)/(↑d:Rat)/\true=true
theorem aFJ (n d:Int):aw LP3 [] (aHj n d) Tryz.f32 (T2 (.k .q ((n:Rat)/(d:Rat))) (.k .bool true)) [.k (.int .i64) n,.k (.int .i64) d]=aEr n d:=by kernel_rfl
theorem aFK (n d:Int) (hg:ab n/\ab d/\d≠0):aEr n d:=by unfold aEr;obtain ⟨h1,h2,h3⟩:=hg;exact ⟨h1,h2,⟨(show Sm 64 n.natAbs from Sm.lit (by have:=h1.1;have:=h1.2;omega)).le (by unfold BZ;omega),(show Sm 64 d.natAbs from Sm.lit (by have:=h2.1;have:=h2.2;omega)).le (by unfold BZ;omega),h3⟩,rfl,rfl⟩
theorem aFL:ah (cfg []) aGb:=cf aIQ bp Tryz.func32 (by kernel_rfl) fun args g r hn hc hg hf=>by
 replace hc:foOver args=some (g,r,hn):=hc;unfold foOver at hc;split at hc
 ·obtain ⟨rfl,rfl,rfl⟩:=aN hc;cases aY (aFJ _ _) (aFK _ _ hg);exact ⟨rfl,by kernel_rfl,_,by assumption⟩
 ·cases hc
theorem cmI {l:List Int} (h:∀i,(l.getD i 0).natAbs<256):Cm 8 (co (List.map (fun z:Int=>(z:Rat)) l)):=by
 refine ⟨1,by decide,fO (by decide),fun i=>⟨l.getD i 0,fO (h i),?_⟩⟩;rw [show ((1:Int):Rat)=1 from rfl,EN];rcases aI i l.length with hi | hi
 ·exact getD_map hi 0 0
 ·rw [amN (by rw [tT];exact hi),mZ hi];rfl
theorem cm4 {a b c d:Int} (ha:a.natAbs<256) (hb:b.natAbs<256) (hc:c.natAbs<256) (hd:d.natAbs<256):Cm 8 (co [(a:Rat),(b:Rat),(c:Rat),(d:Rat)]):=cmI (l:=[a,b,c,d]) fun i=>match i with | 0=>ha | 1=>hb | 2=>hc | 3=>hd | _+4=>by show (0:Int).natAbs<256;decide
theorem cm3 {a b c:Int} (ha:a.natAbs<256) (hb:b.natAbs<256) (hc:c.natAbs<256):Cm 8 (co [(a:Rat),(b:Rat),(c:Rat)]):=cmI (l:=[a,b,c]) fun i=>match i with | 0=>ha | 1=>hb | 2=>hc | _+3=>by show (0:Int).natAbs<256;decide
theorem cm2 {a b:Int} (ha:a.natAbs<256) (hb:b.natAbs<256):Cm 8 (co [(a:Rat),(b:Rat)]):=cmI (l:=[a,b]) fun i=>match i with | 0=>ha | 1=>hb | _+2=>by show (0:Int).natAbs<256;decide
theorem cm1 {a:Int} (ha:a.natAbs<256):Cm 8 (co [(a:Rat)]):=cmI (l:=[a]) fun i=>match i with | 0=>ha | _+1=>by show (0:Int).natAbs<256;decide
theorem GcF.small {p q:List Rat} (hp:Cm 8 (co p)) (hq:Cm 8 (co q)) (lp:p.length<=4) (lq:q.length<=4):GcF p q:=by refine ⟨8,by omega,hp,hq,?_⟩;have h1:=auw p;have h2:=auw q;have k1:=cM (show 0<3 by decide) (show (SM p).length<=4 by omega);have k2:=cM (show 0<3 by decide) (show (SM q).length<=4 by omega);unfold pot UG;split <;> omega
theorem DvF.small {p q:List Rat} (hp:Cm 8 (co p)) (hq:Cm 8 (co q)) (lp:p.length<=4):DvF p q:=by refine ⟨8,8,by omega,by omega,hp,hq,?_⟩;have h1:=auw p;unfold BQ;omega
theorem aIT:FcF [((0:Int):Rat),((1:Int):Rat),((-2:Int):Rat),((1:Int):Rat)]/\aAw [((0:Int):Rat),((1:Int):Rat),((-2:Int):Rat),((1:Int):Rat)]=[[((0:Int):Rat),((1:Int):Rat)],[((-1:Int):Rat),((1:Int):Rat)]]:=by
 have c4:Cm 8 (co [((0:Int):Rat),((1:Int):Rat),((-2:Int):Rat),((1:Int):Rat)]):=cm4 (by decide) (by decide) (by decide) (by decide);have ed:auM [((0:Int):Rat),((1:Int):Rat),((-2:Int):Rat),((1:Int):Rat)]=[((1:Int):Rat),((-4:Int):Rat),((3:Int):Rat)]:=by kernel_rfl
 have eg:ajJ [((0:Int):Rat),((1:Int):Rat),((-2:Int):Rat),((1:Int):Rat)] [((1:Int):Rat),((-4:Int):Rat),((3:Int):Rat)]=[((-1:Int):Rat),((1:Int):Rat)]:=by kernel_rfl
 have ef:ovL [((0:Int):Rat),((1:Int):Rat),((-2:Int):Rat),((1:Int):Rat)] [((-1:Int):Rat),((1:Int):Rat)]=[((0:Int):Rat),((-1:Int):Rat),((1:Int):Rat)]:=by kernel_rfl
 have eg2:ajJ [((0:Int):Rat),((-1:Int):Rat),((1:Int):Rat)] [((-1:Int):Rat),((1:Int):Rat)]=[((-1:Int):Rat),((1:Int):Rat)]:=by kernel_rfl
 have eo2:ovL [((-1:Int):Rat),((1:Int):Rat)] [((-1:Int):Rat),((1:Int):Rat)]=[((1:Int):Rat)]:=by kernel_rfl
 have eg3:ajJ [((-1:Int):Rat),((1:Int):Rat)] [((1:Int):Rat)]=[((1:Int):Rat)]:=by kernel_rfl
 have eo3:ovL [((1:Int):Rat)] [((1:Int):Rat)]=[((1:Int):Rat)]:=by kernel_rfl
 have d3:Cm 8 (co [((1:Int):Rat),((-4:Int):Rat),((3:Int):Rat)]):=cm3 (by decide) (by decide) (by decide);have f3:Cm 8 (co [((0:Int):Rat),((-1:Int):Rat),((1:Int):Rat)]):=cm3 (by decide) (by decide) (by decide);have g2:Cm 8 (co [((-1:Int):Rat),((1:Int):Rat)]):=cm2 (by decide) (by decide);have o1:Cm 8 (co [((1:Int):Rat)]):=cm1 (by decide);refine ⟨⟨⟨⟨8,by omega,c4,by unfold BQ;omega⟩,?_,?_⟩,?_⟩,by kernel_rfl⟩
 ·rw [ed];exact .small c4 d3 (by simp) (by simp)
 ·rw [ed,eg];exact .small c4 g2 (by simp)
 ·unfold frL;rw [ed,eg,ef];refine fun _=>⟨.small f3 g2 (by simp) (by simp),by rw [eg2];exact .small f3 g2 (by simp),by rw [eg2];exact .small g2 g2 (by simp),?_⟩
  rw [eg2,eo2];refine fun _=>⟨.small g2 o1 (by simp) (by simp),by rw [eg3];exact .small g2 o1 (by simp),by rw [eg3];exact .small o1 o1 (by simp),?_⟩
  rw [eg3,eo3];exact fun h=>absurd h (by simp)
theorem aEs {xs:List Rat} (h1:SL BQ xs) (h2:xs.length<=10) (h3:∀i,i<xs.length->xs.getD i 0≠0->QtP (aqR (xs.getD i 0))):TxP xs:=
 ⟨h1,iQ (auw xs) h2,fun j hj=>by
  rcases aI j xs.length with h | h
  ·exact h3 j h hj
  ·exact absurd (amN h) hj⟩
noncomputable def LP5:List az:=aGb::aH0::aF8::xV::xQ::aa5::[]
theorem aIU:bd LP5:=⟨aFL,aG1,aFF,uw,mV,V5,trivial⟩
def fjKnown13:List AV->Option (Option Prop×AV×List Ob)
 | []=>some (none,.k .bool true,[])
 | _=>none
def aDE:az:=⟨10,false,fjKnown13⟩
def aEt  : bk:=⟨fun key_=>match key_ with | 3=>4 | _=>0,nL,nR,nU⟩
def aBe  : Prop:=
 let t1:=(↑(1:Int):Rat);
 let t2:=aAw [(↑(0:Int):Rat),t1,(↑(-2:Int):Rat),t1];
 (ab (-1:Int)/\ab (2:Int)/\(2:Int)≠(0:Int))/\ab (0:Int)/\ab (1:Int)/\ab (-2:Int)/\ab (1:Int)/\SL BQ [(↑(0:Int):Rat),t1,(↑(-2 :
 Int):Rat),t1]/\FcF [(↑(0:Int):Rat),t1,(↑(-2:Int):Rat),t1]/\ab (1:Int)/\ab (0:Int)/\TxP [t1,(↑(0:Int):Rat),(↑(-1:Int):Rat)/(↑(2 :
 Int):Rat)]/\(t2.length<=aB->((0:Int)<=(0:Int)/\(0:Int)<(↑t2.length:Int))/\TxP (t2.getD (Int.toNat (0:Int)) [])/\((0:Int)<=(1:Int)/\(1:Int) <
 (↑t2.length:Int))/\TxP (t2.getD (Int.toNat (1:Int)) [])/\((aEn (t2.getD (Int.toNat (1:Int)) [])).toList == (⟨#[120,32,45,32,49]⟩:ByteArray).toList) =
 true)
theorem aDN  : aw LP5 [] (aEt ) Tryz.f10 (.k .bool true) []=aBe  :=by kernel_rfl
theorem aDO  (hf:cJ []):aBe  :=by
 unfold aBe;dsimp only;obtain ⟨hF,hE⟩:=aIT;rw [hE];have i1:ab 1:=⟨by omega,by omega⟩
 have i0:ab 0:=⟨by omega,by omega⟩
 have im:ab (-1):=⟨by omega,by omega⟩
 have im2:ab (-2):=⟨by omega,by omega⟩
 have i2:ab 2:=⟨by omega,by omega⟩
 have b1:(1:Nat)<=BQ:=BQp;have b64:64<=BQ:=by unfold BQ;omega
 have q1:∀z:Int,z.natAbs<256->Sq BQ (z:Rat):=fun z hz=>(Sq.int (k:=8) (fO (by omega)) (by omega)).le (by unfold BQ;omega);have t1:QtP (aqR ((1:Int):Rat)):=⟨by decide,.inl (by decide),fun h=>absurd (by decide) h,q1 1 (by decide)⟩
 have tm:QtP (aqR ((-1:Int):Rat)):=⟨by decide,.inl (by decide),fun h=>absurd (by decide) h,q1 1 (by decide)⟩
 have n1:(aqR (((-1:Int):Rat)/((2:Int):Rat))).num=1:=by kernel_rfl
 have n2:(aqR (((-1:Int):Rat)/((2:Int):Rat))).den=2:=by kernel_rfl
 have th:QtP (aqR (((-1:Int):Rat)/((2:Int):Rat))):=⟨by rw [n1];decide,by rw [n1];exact .inl rfl,fun _=>by rw [n2];exact .inr rfl,⟨by rw [n1];exact Sm.one.le b1,by rw [n2];exact (show Sm 2 2 from fO (by decide)).le (by unfold BQ;omega)⟩⟩
 have hs4:SL BQ [((0:Int):Rat),((1:Int):Rat),((-2:Int):Rat),((1:Int):Rat)]:=fun i=>match i with | 0=>q1 0 (by decide) | 1=>q1 1 (by decide) | 2=>q1 (-2) (by decide) | 3=>q1 1 (by decide) | _+4=>Sq.zero BQ b1
 have sh:Sq BQ (((-1:Int):Rat)/((2:Int):Rat)):=((Sq.int (k:=8) (n:= -1) (fO (by decide)) (by omega)).div (Sq.int (k:=8) (n:=2) (fO (by decide)) (by omega)) (by decide)).le (by unfold BQ;omega);refine ⟨⟨im,i2,by decide⟩,i0,i1,im2,i1,hs4,hF,i1,i0,aEs (fun i=>match i with | 0=>q1 1 (by decide) | 1=>q1 0 (by decide) | 2=>sh | _+3=>Sq.zero BQ b1) (by simp) (fun i hi ay=>?_),fun _=>⟨⟨by decide,by decide⟩,?_,⟨by decide,by decide⟩,?_,by kernel_rfl⟩⟩
 ·match i,hi with
  | 0,_=>exact t1
  | 1,_=>exact absurd rfl ay
  | 2,_=>exact th
 ·refine aEs (xs:=[((0:Int):Rat),((1:Int):Rat)]) (fun i=>match i with | 0=>q1 0 (by decide) | 1=>q1 1 (by decide) | _+2=>Sq.zero BQ b1) (by simp) fun i hi ay=>?_;match i,hi with
  | 0,_=>exact absurd rfl ay
  | 1,_=>exact t1
 ·refine aEs (xs:=[((-1:Int):Rat),((1:Int):Rat)]) (fun i=>match i with | 0=>q1 (-1) (by decide) | 1=>q1 1 (by decide) | _+2=>Sq.zero BQ b1) (by simp) fun i hi ay=>?_;match i,hi with
  | 0,_=>exact tm
  | 1,_=>exact t1
theorem aDP:ah (cfg []) aDE:=cf aIU bp Tryz.func10 (by kernel_rfl) fun args g r hn hc hg hf=>by
 replace hc:fjKnown13 args=some (g,r,hn):=hc;unfold fjKnown13 at hc;split at hc
 ·obtain ⟨rfl,rfl,rfl⟩:=aN hc;cases aY (aDN ) (aDO  hf);exact ⟨rfl,by kernel_rfl,_,by assumption⟩
 ·cases hc
attribute [local go_sem] Oper.semAt_some
abbrev QE (B:Nat):={ p:Nat×Rat // Sq B p.2 }
def upA {α:Type} (f:Nat->α) (k:Nat):List α:=(List.range k).map f
theorem aJg {α:Type} (f:Nat->α) (k:Nat):upA f (k+1)=upA f k++[f k]:=by simp [upA,EM]
theorem aLv {α:Type} (f:Nat->α) (k:Nat):(upA f k).length=k:=by simp [upA]
def bkE {B:Nat} (xs:List Rat) (hs:∀j,Sq B (co xs j)) (k:Nat):QE B:=⟨(xs.length-1-k,co xs (xs.length-1-k)),hs _⟩
abbrev aLQ {B:Nat} (x:QE B):Array Value:= #[Value.int .i64 (x.1.1:Int),qCv x.1.2]
def Kb (azV Bs:Nat) (A B:World):Prop:=Below azV A B/\B.heap[Bs]? = A.heap[Bs]?
theorem Kb.refl (azV Bs:Nat) (A:World):Kb azV Bs A A:=⟨Below.refl _ _,rfl⟩
theorem Kb.trans {azV Bs:Nat} {A B C:World} (h:Kb azV Bs A B) (k:Kb azV Bs B C):Kb azV Bs A C:=⟨h.1.trans k.1,k.2.trans h.2⟩
theorem aMF {B:Nat} (xs:List Rat) (hs:∀j,Sq B (co xs j)) (F:Fence) (n:Nat) (hF:F.fn 69) (hro:F.round=none) (hn:1<=n) (l Bs azV g off cap:Nat) (aLa:xs.length<=1000000) (hb:g<azV)
  (J Jx:List (QE B)->World->Prop)
  (hY:∀pre x W,J pre W->pre.length<xs.length->YieldAt F (n-1) Tryz.prog l (aLQ x) W fun e W'=>(e = .returned (.bool true)/\J (pre++[x]) W'/\Kb azV Bs W W')\/(e = .returned (.bool false)/\Jx (pre++[x]) W'))
  (W:World) (hBs:W.heap[Bs]? = some (.cells #[.slice (some ⟨g,off,none⟩) xs.length cap] 22 (0,0))) (hc:∀j,j<xs.length->fF W g (off+j*5) (qC (co xs j))) (h0:J [] W) :
  CallsIn F n Tryz.prog 69 #[.func (.yield l) #[] #[],.pointer (some ⟨Bs,0,none⟩)] W fun e W'=>(∃v,e = .returned v) /\
   ((∃ys,ys=upA (bkE xs hs) xs.length/\J ys W')\/(∃pre,(∃k,k<=xs.length/\pre=upA (bkE xs hs) k)/\Jx pre W')):=by
 have HC:=aad hc
 have HB0:=aad hBs
 have HS:=aad aLa
 have HYY:=aad hY
 clear hc hY
 refine callsIn_of_wp Tryz.func69 rfl hF ?_ hro
 have hcB:∀w',Kb azV Bs W w'->w'.cell? ⟨Bs,0,none⟩=some (.slice (some ⟨g,off,none⟩) xs.length cap):=fun w' h=>by have e:=h.2.trans HB0.out;simp [World.cell?,e]
 have fJ:=hcB W (Kb.refl _ _ _)
 simp only [Tryz.ntmps69,AB,tn,y4,Nat.reduceAdd,Nat.reduceSub,Cf,Cg,CS,Cn,wc,xZ]
 generalize hN:xs.length=N at *
 gi_wp2
 gi_loopw [3] (fun i wr=>∃k:Nat,k<=N/\i = .int .i64 ((k:Int)-1)/\J (upA (bkE xs hs) (N-k)) wr/\Kb azV Bs W wr)
  (fun i _=>(intOf i+1).toNat)
 case atStart=>exact ⟨N,aV _,rfl,by rw [yn];exact h0,Kb.refl _ _ _⟩
 case round=>
  obtain ⟨k,hk,rfl,hJs,hnx⟩:=hrel
  by_cases AG:k=0
  ·subst AG
   gi_wp2
   go_end0
   exact ⟨⟨_,rfl⟩,.inl ⟨_,rfl,hJs⟩⟩
  ·obtain ⟨j,rfl⟩:∃j,k=j+1:=⟨k-1,by omega⟩
   have hjN:j<N:=by omega
   rw [show ((j+1:Nat):Int)-1=(j:Int) from by omega]
   have hjz:(j:Int)<(N:Int):=by omega
   have EC:j<=1000000:=by have:=HS.out;omega
   have eB:(bkE xs hs (N-(j+1))).1=(j,co xs j):=by show (xs.length-1-(N-(j+1)),co xs (xs.length-1-(N-(j+1))))=_;rw [hN,show N-1-(N-(j+1))=j by omega]
   obtain ⟨fn,tmps,assign,body,hy,hR⟩:=HYY.out _ (bkE xs hs (N-(j+1))) wr hJs (by rw [aLv];omega)
   have hix:∀W,(Instr.indexAt 22 (.slice (some ⟨g,off,none⟩) N cap) (.int .i64 (j:Nat))).run Tryz.prog W = .ok (.pointer (some ⟨g,off+j*5,none⟩)) W:=fun W=>Ig (sz:=5) (i:=(j:Int)) (by kernel_rfl) ⟨by omega,by omega⟩
   obtain ⟨c0,c1,c2,c3,c4,hq5⟩:∃c0 c1 c2 c3 c4,qC (co xs j)=[c0,c1,c2,c3,c4]:=⟨_,_,_,_,_,rfl⟩
   have ev:qCv (co xs j) = .agg #[c0,c1,c2,c3,c4]:=by show Value.agg (qC _).toArray=_;rw [hq5]
   have h:=aEJ (HC.out j hjN) hb hnx.1
   rw [hq5] at h
   have e0:wr.cell? ⟨g,off+j*5,none⟩=some c0:=h 0 (by simp)
   have e1:wr.cell? ⟨g,off+j*5+1,none⟩=some c1:=h 1 (by simp)
   have e2:wr.cell? ⟨g,off+j*5+2,none⟩=some c2:=h 2 (by simp)
   have e3:wr.cell? ⟨g,off+j*5+3,none⟩=some c3:=h 3 (by simp)
   have e4:wr.cell? ⟨g,off+j*5+4,none⟩=some c4:=h 4 (by simp)
   have ee:aLQ (bkE xs hs (N-(j+1))) = #[.int .i64 (j:Int),.agg #[c0,c1,c2,c3,c4]]:=by show #[Value.int .i64 ((bkE xs hs (N-(j+1))).1.1:Int),qCv (bkE xs hs (N-(j+1))).1.2]=_;rw [eB,ev]
   rw [ee] at hy
   have hcw:=hcB wr hnx
   clear h ee ev hq5 fJ h0 hcB eB
   gi_wp2
   refine hR.mono ?_
   rintro e W3 (⟨rfl,hJ3,hk3⟩ | ⟨rfl,aQO⟩)
   ·gi_wp2
    go_roundw
    case rel=>exact ⟨j,by omega,rfl,by rw [show N-j=N-(j+1)+1 by omega,aJg];exact hJ3,hnx.trans hk3⟩
    case measure=>simp [intOf]
   ·gi_wp2
    refine bodyPost_ret (results_none rfl _ _ _) rfl ?_
    exact ⟨⟨_,rfl⟩,.inr ⟨_,⟨N-j,by omega,by rw [show N-j=N-(j+1)+1 by omega,aJg]⟩,aQO⟩⟩
theorem aMh {B:Nat} (F:Fence) (n:Nat) (hF:F.fn 69) (hro:F.round=none) (l Bs cap:Nat) (A:Option Addr) (J:List (QE B)->World->Prop)
  (W:World) (hBs:W.heap[Bs]? = some (.cells #[.slice A 0 cap] 22 (0,0))) (h0:J [] W) :
  CallsIn F n Tryz.prog 69 #[.func (.yield l) #[] #[],.pointer (some ⟨Bs,0,none⟩)] W fun e W'=>(∃v,e = .returned v)/\J [] W':=by
 refine callsIn_of_wp Tryz.func69 rfl hF ?_ hro
 have fJ:W.cell? ⟨Bs,0,none⟩=some (.slice A 0 cap):=by simp [World.cell?,hBs]
 simp only [Tryz.ntmps69,AB,tn,y4,Nat.reduceAdd,Nat.reduceSub,Cf,Cg,CS,Cn,wc,xZ]
 gi_wp2
 gi_loopw [3] (fun i wr=>i = .int .i64 (-1)/\J [] wr) (fun _ _=>0)
 case atStart=>exact ⟨rfl,h0⟩
 case round=>
  obtain ⟨rfl,hJs⟩:=hrel
  gi_wp2
  go_end0
  exact ⟨⟨_,rfl⟩,hJs⟩
theorem aMG (F:Fence) (n:Nat) (hF:F.fn 40) (hro:F.round=none) (a:Option Addr) (len cap:Nat) (w:World) :
  CallsIn F n Tryz.prog 40 #[.slice a len cap] w fun e w'=>e = .returned (.func (.func 69) #[] #[.pointer (some ⟨w.heap.size,0,none⟩)])/\w'=w.alloc (.cells #[.slice a len cap] 22):=by
 refine callsIn_of_wp Tryz.func40 rfl hF ?_ hro
 simp only [Tryz.ntmps40,AB,tn,y4,Nat.reduceAdd,Nat.reduceSub,Cf,Cg,CS,Cn,wc,xZ]
 gi_wp2
 go_ret
 exact ⟨rfl,rfl⟩
theorem aLx {B:Nat} (xs:List Rat) (hs:∀j,Sq B (co xs j)) (F:Fence) (n:Nat) (hF:F.fn 69) (hro:F.round=none) (hn:1<=n) (Bs azV cap:Nat) (A:Option Addr) (aLa:xs.length<=1000000) (w:World)
  (aOZ:azV<=w.heap.size) (hBs:w.heap[Bs]? = some (.cells #[.slice A xs.length cap] 22 (0,0)))
  (hI:0<xs.length->∃g off,A=some ⟨g,off,none⟩/\g<azV/\∀j,j<xs.length->fF w g (off+j*5) (qC (co xs j))) :
  SeqStopsK F n Tryz.prog 69 #[.pointer (some ⟨Bs,0,none⟩)] (aLQ (B:=B)) (Kb azV Bs) (fun ys=>ys=upA (bkE xs hs) xs.length)
   (fun pre=>∃k,k<=xs.length/\pre=upA (bkE xs hs) k) xs.length w:=fun l J Jx W hW _ _ hY h0=>by
 have aU:Bs<w.heap.size:=(dw.1 hBs).1
 have aMH:W.heap[Bs]? = some (.cells #[.slice A xs.length cap] 22 (0,0)):=(hW.block Bs aU).trans hBs
 by_cases hx:0<xs.length
 ·obtain ⟨g,off,rfl,hg,hl⟩:=hI hx
  exact aMF xs hs F n hF hro hn l Bs azV g off cap aLa hg J Jx hY W aMH (fun j hj=>aEJ (hl j hj) (bF hg aOZ) hW) h0
 ·have e0:xs.length=0:=by omega
  rw [e0] at aMH
  exact (aMh F n hF hro l Bs cap A J W aMH h0).mono fun e W' ⟨he,hj⟩=>⟨he,.inl ⟨_,by rw [e0];rfl,hj⟩⟩
attribute [local go_sem] Oper.semAt_some
theorem Ext.of {w w':World} (s:Nat) (h:w.heap.size=s) (b:Below s w w'):Ext w w':=by subst h;exact b
def QB (W:World) (b:Nat) (x:Rat):Prop:=W.heap[b]? = some (.cells (qC x).toArray 42 (0,0))
def azv {B:Nat} (x:Rat) (pre:List (QE B)):Rat:=pre.foldl (fun s p=>s*x+p.1.2) 0
theorem aHr {B:Nat} (x:Rat) (pre:List (QE B)) (p:QE B):azv x (pre++[p])=azv x pre*x+p.1.2:=by simp [azv]
theorem aLy {B C:Nat} {x:Rat} (hx:Sq C x):∀pre:List (QE B),Sq (pre.length*(B+C+1)+1) (azv x pre):=by
 suffices h:∀n (pre:List (QE B)),pre.length=n->Sq (n*(B+C+1)+1) (azv x pre) from fun pre=>h _ pre rfl
 intro n;induction n with
 | zero=>intro pre h;rw [List.length_eq_zero_iff.1 h];exact Sq.zero _ (by simp)
 | succ n ih=>
  intro pre h;have ay:pre≠[]:=fun e=>by rw [e] at h;simp at h
  rw [<-List.dropLast_concat_getLast ay,aHr];refine (((ih pre.dropLast (by rw [List.length_dropLast];omega)).mul hx).add (pre.getLast ay).2).le ?_;rw [fi];omega
theorem QB.lt {W:World} {b:Nat} {x:Rat} (h:QB W b x):b<W.heap.size:=(dw.1 h).1
theorem QB.ext {W W':World} {b:Nat} {x:Rat} (h:QB W b x) (e:Ext W W'):QB W' b x:=(e.block b h.lt).trans h
theorem QB.alloc {W:World} {b:Nat} {x:Rat} (h:QB W b x) (o:Obj):QB (W.alloc o) b x:=h.ext ((Ext.refl W).alloc o)
theorem QB.cells {W:World} {b:Nat} {x:Rat} {c0 c1 c2 c3 c4:Value} (h:QB W b x) (e:qC x=[c0,c1,c2,c3,c4]):W.cell? ⟨b,0,none⟩=some c0/\W.cell? ⟨b,1,none⟩=some c1/\W.cell? ⟨b,2,none⟩=some c2/\W.cell? ⟨b,3,none⟩=some c3/\W.cell? ⟨b,4,none⟩=some c4:=by unfold QB at h;rw [e] at h;simp [World.cell?,h]
theorem QB.frozen {W:World} {b:Nat} {x:Rat} (h:QB W b x) (o:Nat):W.frozen? ⟨b,o,none⟩=false:=by unfold QB at h;simp [World.frozen?,h]
theorem aJG (b:Nat) {β:Type} (f:β->Rat):Own (fun (s:β) W=>QB W b (f s)):=fun s X Y row hs hg gK=>(hg.block b (QB.lt hs) (fun e=>by obtain ⟨o,ho,hc⟩:=gK b e.symm;rw [show X.heap[b]? = _ from hs] at ho;cases ho;cases hc)).trans hs
theorem aJo (x:Rat):∃(b:Bool) (l1:Int) (s1:ByteArray) (l2:Int) (s2:ByteArray),qC x=[.bool b,.int .u64 l1,.string s1,.int .u64 l2,.string s2]:=⟨_,_,_,_,_,rfl⟩
theorem aLz {f:FuncId} {c:List AV->Option (Option Prop×AV×List Ob)} {x y z:Rat} {g:Option Prop} (h:ah (cfg []) ⟨f,false,c⟩) (hc:c [.k .q x,.k .q y]=some (g,.k .q z,[])) (hg:bt g) (W:World) (ht:cK W) :
  Calls Tryz.prog f #[qCv x,qCv y] W fun e w'=>e = .returned (qCv z)/\Ext W w':=by
 refine Calls.mono (qV h hc hg rfl ht (vs:=[qCv x,qCv y]) ⟨⟨_,rfl,rfl⟩,⟨_,rfl,rfl⟩,trivial⟩) ?_
 rintro e w' ⟨v,rfl,h1,⟨cs,h2,rfl⟩⟩
 exact ⟨by rw [show cs=qC z from h2];rfl,h1⟩
theorem aMI {B C:Nat} (xs:List Rat) (x:Rat) (hs:∀j,Sq B (co xs j)) (hx:Sq C x) (hl:xs.length<=1000000) (hb:(xs.length+1)*(B+C+1)+1<=BQ) (w:World) (v:Value) (ht:cK w) (hv:aq (fun _=>True) w dX (.k (.list .q) xs) v) :
  Calls Tryz.prog 15 #[v,qCv x] w fun e w'=>e = .returned (qCv (azv x (upA (bkE xs hs) xs.length)))/\Ext w w':=by
 have HL:=aad hl
 have uV:=aad hb
 have HT:=aad (fun W (e:Ext w W)=>mW ht e)
 have yC:=hv
 obtain ⟨cs,⟨A,cap,rfl,aFD⟩,rfl⟩:=hv
 clear aFD
 show Calls Tryz.prog 15 #[.slice A xs.length cap,qCv x] w _
 have HI:Hid (0<xs.length->∃g off,A=some ⟨g,off,none⟩/\g<w.heap.size/\∀j,j<xs.length->fF w g (off+j*5) (qC (co xs j))):=aad (fun h0=>by
  obtain ⟨g,off,c,h1,h2,h3⟩:=aIM yC h0
  cases h1;exact ⟨g,off,rfl,h2,h3⟩)
 clear yC ht hl hb
 refine (callsIn_wide (n:=5)).1 ?_
 obtain ⟨b0,l1,s1,l2,s2,hq5⟩:=aJo x
 have ev:qCv x = .agg #[.bool b0,.int .u64 l1,.string s1,.int .u64 l2,.string s2]:=by show Value.agg (qC _).toArray=_;rw [hq5]
 have EV:=aad ev
 have HQ5:=aad hq5
 rw [ev]
 clear ev hq5
 refine callsIn_of_wp_marks Tryz.func15 rfl trivial ?_ rfl
 simp only [Tryz.ntmps15,AB,tn,y4,Nat.reduceAdd,Nat.reduceSub,Cf,Cg,CS,Cn,wc,xZ]
 generalize hN:xs.length=N at *
 gi_wp2_with (refine ⟨trivial,?_⟩;gi_at_call 40;refine (aMG Fence.wide _ trivial rfl _ _ _ _).mono ?_;rintro e w' ⟨rfl,rfl⟩)
 rename_i K hK
 obtain ⟨W0,hW0⟩:∃W0,((((w.alloc (.cells #[.bool b0,.int .u64 l1,.string s1,.int .u64 l2,.string s2] 42)).alloc (.cells #[.bool false,.int .u64 0,.string ⟨#[]⟩,.int .u64 0,.string ⟨#[]⟩] 42)).alloc (.cells #[.bool false,.int .u64 0,.string ⟨#[]⟩,.int .u64 0,.string ⟨#[]⟩] 42)).alloc (.cells #[.slice A N cap] 22))=W0:=⟨_,rfl⟩
 have kf:QB W0 w.heap.size x:=by rw [<-hW0];refine ((QB.alloc (W:=w.alloc _) ?_ _).alloc _).alloc _;unfold QB;rw [HQ5.out];exact World.alloc_heap_new _ _
 have hz:(qC 0).toArray = #[.bool false,.int .u64 0,.string ⟨#[]⟩,.int .u64 0,.string ⟨#[]⟩]:=by kernel_rfl
 have l0:QB W0 (w.heap.size+1) 0:=by rw [<-hW0];refine (QB.alloc (W:=(w.alloc _).alloc _) ?_ _).alloc _;unfold QB;rw [hz];have:=World.alloc_heap_new (w.alloc (.cells #[.bool b0,.int .u64 l1,.string s1,.int .u64 l2,.string s2] 42)) (.cells #[.bool false,.int .u64 0,.string ⟨#[]⟩,.int .u64 0,.string ⟨#[]⟩] 42);rw [World.size_alloc] at this;exact this
 have cF:QB W0 (w.heap.size+1+1) 0:=by rw [<-hW0];refine QB.alloc (W:=((w.alloc _).alloc _).alloc _) ?_ _;unfold QB;rw [hz];have:=World.alloc_heap_new ((w.alloc (.cells #[.bool b0,.int .u64 l1,.string s1,.int .u64 l2,.string s2] 42)).alloc (.cells #[.bool false,.int .u64 0,.string ⟨#[]⟩,.int .u64 0,.string ⟨#[]⟩] 42)) (.cells #[.bool false,.int .u64 0,.string ⟨#[]⟩,.int .u64 0,.string ⟨#[]⟩] 42);rw [World.size_alloc,World.size_alloc] at this;exact this
 have fH:W0.heap[w.heap.size+1+1+1]? = some (.cells #[.slice A N cap] 22 (0,0)):=by rw [<-hW0];have:=World.alloc_heap_new (((w.alloc (.cells #[.bool b0,.int .u64 l1,.string s1,.int .u64 l2,.string s2] 42)).alloc (.cells #[.bool false,.int .u64 0,.string ⟨#[]⟩,.int .u64 0,.string ⟨#[]⟩] 42)).alloc (.cells #[.bool false,.int .u64 0,.string ⟨#[]⟩,.int .u64 0,.string ⟨#[]⟩] 42)) (.cells #[.slice A N cap] 22);rw [World.size_alloc,World.size_alloc,World.size_alloc] at this;exact this
 have br:W0.heap.size=w.heap.size+4:=by rw [<-hW0];simp
 have fJ:Below w.heap.size w W0:=by rw [<-hW0];exact ((((Below.refl _ w).alloc (aV _) _).alloc (by simp) _).alloc (by simp;omega) _).alloc (by simp;omega) _
 rw [hW0]
 clear hW0 hz
 generalize hs0:w.heap.size=s at *
 refine wpIn_rangeFunc_ownH (α:=QE B) rfl (by omega) (gf:=69) (lb:= #[.pointer (some ⟨s+1+1+1,0,none⟩)]) rfl trivial (enters_of Tryz.func69 (by kernel_rfl) rfl)
  (aLx xs hs Fence.wide _ trivial rfl (by omega) (s+1+1+1) s cap A (by rw [hN];exact HL.out) W0 (by omega) (by rw [hN];exact fH)
   (fun h0=>by obtain ⟨g,off,h1,h2,h3⟩:=HI.out (by omega);exact ⟨g,off,h1,h2,fun j hj=>aEJ (h3 j (by omega)) h2 fJ⟩)) Kb.trans
  (fun W l o o' hl ho cU rL=>⟨belowK_b (w:=W0) (by omega) W l o o' hl ho cU rL,World.putObj_heap_other (by omega)⟩) (Below.refl _ _) (fun _=>rfl)
  (fun pre W=>(QB W s x/\QB W (s+1) 0)/\(QB W (s+1+1) (azv x pre)/\(Below s w W/\s+4<=W.heap.size)))
  (fun _ _ _=>False)
  (OwnFrom.and (OwnFrom.and (Own.from (aJG _ _) _) (Own.from (aJG _ _) _)) (OwnFrom.and (Own.from (aJG _ _) _) (OwnFrom.and (ownFrom_below (by omega) (by omega)) (fun _ X Y row hs hg _=>iQ hs hg.size))))
  (fun _ _ _ _ _ hs _ _=>hs)
  ⟨⟨kf,l0⟩,⟨cF,fJ,by omega⟩⟩
  (fun p a' W=>∃Bx,s+4<=Bx/\QB W Bx p.1.2/\a'={ tmps:= #[.slice A N cap,.agg #[.bool b0,.int .u64 l1,.string s1,.int .u64 l2,.string s2],undef,.pointer (some ⟨s,0,none⟩),.pointer (some ⟨s+1,0,none⟩),.pointer (some ⟨s+1+1,0,none⟩),undef,.pointer (some ⟨Bx,0,none⟩),.slice A N cap,.func (.func 69) #[] #[.pointer (some ⟨s+1+1+1,0,none⟩)],.int .i64 (p.1.1:Int),qCv p.1.2,undef,undef,undef,undef,undef,undef],defers:=[] })
  (fun p a' _ X Y row hs hg hr=>by obtain ⟨Bx,h1,h2,h3⟩:=hs;exact ⟨Bx,h1,aJG Bx (fun (_:Unit)=>p.1.2) () X Y row h2 hg (fun r e=>(hr r e).2),h3⟩)
  ?assign ?body ?done ?stop
 case assign=>
  rintro l pre ⟨⟨i,y⟩,hy⟩ W Kc ⟨⟨h1,h2⟩,h3,h4,h5⟩ hKc
  obtain ⟨b3,l3,s3,l4,s4,hq6⟩:=aJo y
  have ee:aLQ (⟨(i,y),hy⟩:QE B) = #[.int .i64 (i:Int),.agg #[.bool b3,.int .u64 l3,.string s3,.int .u64 l4,.string s4]]:=by show #[Value.int .i64 (i:Int),Value.agg (qC y).toArray]=_;rw [hq6]
  rw [ee]
  have HKC:=aad hKc
  clear ee hKc hK
  gi_wp2
  refine HKC.out _ _ ((KeepsOthers.alloc _ _).from _) ⟨(Below.refl _ W).alloc (by omega) _,Below.heap_alloc _ _ _ (by omega)⟩ ⟨⟨h1.alloc _,h2.alloc _⟩,h3.alloc _,h4.alloc (by omega) _,by rw [World.size_alloc];omega⟩ ⟨W.heap.size,h5,?_,?_⟩
  ·unfold QB
   rw [hq6]
   exact World.alloc_heap_new _ _
  ·rw [show qCv y = .agg #[.bool b3,.int .u64 l3,.string s3,.int .u64 l4,.string s4] by show Value.agg (qC _).toArray=_;rw [hq6]]
 case body=>
  rintro l pre ⟨⟨i,y⟩,hy⟩ a' W hl ⟨r,hr⟩ ⟨⟨h1,h2⟩,h3,h4,h5⟩ ⟨Bx,hBx,bX,rfl⟩ aU
  have aQR:pre.length<N:=by omega
  have hsq:=aLy (B:=B) hx pre
  have Dy:(pre.length+1)*(B+C+1)<=N*(B+C+1):=ba _ aQR
  have Dz:=uV.out
  rw [fi] at Dy Dz
  have HM:Hid (∀w1,Below s W w1->CallsIn (Fence.wide.inRound l) (5-1-1-1) Tryz.prog 28 #[qCv (azv x pre),qCv x] w1 fun e w'=>e = .returned (qCv (azv x pre*x))/\Ext w1 w'):=aad (fun w1 b1=>CallsIn.inRound l (callsIn_wide.2 (aLz pJ rfl ⟨hsq.le (by omega),hx.le (by omega)⟩ w1 (HT.out w1 (Ext.of s hs0 (h4.trans b1))))))
  have HA:Hid (∀w1,Below s W w1->CallsIn (Fence.wide.inRound l) (5-1-1-1) Tryz.prog 41 #[qCv (azv x pre*x),qCv y] w1 fun e w'=>e = .returned (qCv (azv x (pre++[⟨(i,y),hy⟩])))/\Ext w1 w'):=aad (fun w1 b1=>CallsIn.inRound l (callsIn_wide.2 (by rw [aHr];exact aLz pI rfl ⟨(hsq.mul hx).le (by omega),hy.le (by omega)⟩ w1 (HT.out w1 (Ext.of s hs0 (h4.trans b1))))))
  clear Dy Dz hK
  obtain ⟨Q,hQ⟩:∃Q,Q=ownPostG W0.heap.size (Kb s (s+1+1+1)) (fun pre W=>(QB W s x/\QB W (s+1) 0)/\(QB W (s+1+1) (azv x pre)/\(Below s w W/\s+4<=W.heap.size))) (fun _ _ _=>False) (pre++[(⟨(i,y),hy⟩:QE B)]) W:=⟨_,rfl⟩
  rw [<-hQ]
  have HQ:=aad hQ
  clear hQ
  obtain ⟨b3,l3,s3,l4,s4,hq6⟩:=aJo y
  obtain ⟨b5,l5,s5,l6,s6,hq7⟩:=aJo (azv x pre)
  obtain ⟨b7,l7,s7,l8,s8,hq8⟩:=aJo (azv x (pre++[(⟨(i,y),hy⟩:QE B)]))
  have ev3:qCv y = .agg #[.bool b3,.int .u64 l3,.string s3,.int .u64 l4,.string s4]:=by show Value.agg (qC _).toArray=_;rw [hq6]
  have ev5:qCv (azv x pre) = .agg #[.bool b5,.int .u64 l5,.string s5,.int .u64 l6,.string s6]:=by show Value.agg (qC _).toArray=_;rw [hq7]
  have ev7:qCv (azv x (pre++[(⟨(i,y),hy⟩:QE B)])) = .agg #[.bool b7,.int .u64 l7,.string s7,.int .u64 l8,.string s8]:=by show Value.agg (qC _).toArray=_;rw [hq8]
  rw [ev3] at HA ⊢
  rw [ev7] at HA
  rw [ev5,EV.out] at HM
  clear ev3 ev5 ev7
  obtain ⟨e0,e1,e2,e3,e4⟩:=h1.cells HQ5.out
  obtain ⟨f0,f1,f2,f3,f4⟩:=h3.cells hq7
  obtain ⟨g0,g1,g2,g3,g4⟩:=bX.cells hq6
  have f5:=h3.frozen 0
  have f6:=h3.frozen 1
  have f7:=h3.frozen 2
  have f8:=h3.frozen 3
  have f9:=h3.frozen 4
  generalize qCv (azv x pre*x)=m at *
  have HF:Hid (∀(a':Act) (w2:World),Ext W w2->Exit.inBlock 1 Q .normal a' (w2.setCells (s+1+1) 0 [.bool b7,.int .u64 l7,.string s7,.int .u64 l8,.string s8])):=aad (fun a' w2 ex=>by
   rw [HQ.out];have cN:∀{i},i<W.heap.size->i≠s+1+1->(w2.setCells (s+1+1) 0 [.bool b7,.int .u64 l7,.string s7,.int .u64 l8,.string s8]).heap[i]? = W.heap[i]?:=fun hi ay=>(gm (bF hi ex.size) ay).trans (ex.block _ hi);have Ex:Below s W (w2.setCells (s+1+1) 0 [.bool b7,.int .u64 l7,.string s7,.int .u64 l8,.string s8]):=(((((ex.mono (by omega)).setCell (by show s<=s+1+1;omega) _).setCell (by show s<=s+1+1;omega) _).setCell (by show s<=s+1+1;omega) _).setCell (by show s<=s+1+1;omega) _).setCell (by show s<=s+1+1;omega) _
   refine ⟨⟨by rw [bM];exact ex.size,fun k o _ hk ho=>?_⟩,⟨Ex,cN (by omega) (by omega)⟩,⟨(cN h1.lt (by omega)).trans h1,(cN h2.lt (by omega)).trans h2⟩,?_,h4.trans Ex,by rw [bM];exact iQ h5 ex.size⟩
   ·refine (cN (dw.1 hk).1 (fun e=>?_)).trans hk;subst e;rw [show W.heap[s+1+1]? = _ from h3] at hk
    cases hk;cases ho
   ·have hb:ar w2 (s+1+1) 42 [.bool b5,.int .u64 l5,.string s5,.int .u64 l6,.string s6]:=by
     have:=h3.ext ex;unfold QB at this;rw [hq7] at this;exact this
    have:=jf (o:=0) (vs:=[.bool b7,.int .u64 l7,.string s7,.int .u64 l8,.string s8]) hb;unfold QB;rw [hq8];exact this)
  have vJ:Tryz.prog.follows .mixedOrders=true:=by kernel_rfl
  clear hq8 HQ
  gi_wp2_with fail
  gi_region_with_o (first
   | (refine ⟨trivial,?_⟩;gi_at_call 28;refine (HM.out _ (by first | exact Below.refl _ _ | exact (Below.refl _ _).drew)).mono ?_;rintro e w1 ⟨rfl,bU⟩;have bU:Ext W w1:=Ext.trans (Below.refl _ W).drew bU;obtain ⟨i0,i1,i2,i3,i4⟩:=(bX.ext bU).cells hq6;clear HM)
   | (refine ⟨trivial,?_⟩;gi_at_call 41;refine (HA.out _ (Below.mono bU (by omega))).mono ?_;rintro e w2 ⟨rfl,fP⟩;have fP:Ext W w2:=bU.trans fP;obtain ⟨j0,j1,j2,j3,j4⟩:=(h3.ext fP).cells hq7;have j5:=(h3.ext fP).frozen 0;have j6:=(h3.ext fP).frozen 1;have j7:=(h3.ext fP).frozen 2;have j8:=(h3.ext fP).frozen 3;have j9:=(h3.ext fP).frozen 4;clear HA))
  all_goals exact HF.out _ _ (by assumption)
 case done=>
  rintro D ys W hD rfl ⟨⟨h1,h2⟩,h3,h4,h5⟩ hK'
  obtain ⟨b3,l3,s3,l4,s4,hq6⟩:=aJo (azv x (upA (bkE xs hs) N))
  rw [hN] at h3
  have hz:qC 0=[.bool false,.int .u64 0,.string ⟨#[]⟩,.int .u64 0,.string ⟨#[]⟩]:=by kernel_rfl
  obtain ⟨f0,f1,f2,f3,f4⟩:=h3.cells hq6
  obtain ⟨g0,g1,g2,g3,g4⟩:=h2.cells hz
  have f5:=h2.frozen 0
  have f6:=h2.frozen 1
  have f7:=h2.frozen 2
  have f8:=h2.frozen 3
  have f9:=h2.frozen 4
  have EW:Hid (W.setCells (s+1) 0 [.bool b3,.int .u64 l3,.string s3,.int .u64 l4,.string s4]=((((W.setCell ⟨s+1,0,none⟩ (.bool b3)).setCell ⟨s+1,1,none⟩ (.int .u64 l3)).setCell ⟨s+1,2,none⟩ (.string s3)).setCell ⟨s+1,3,none⟩ (.int .u64 l4)).setCell ⟨s+1,4,none⟩ (.string s4)):=aad rfl
  gi_wp2
  rw [<-EW.out]
  clear EW
  have hb:ar W (s+1) 42 (qC 0):=h2
  rw [hz] at hb
  have cF:=jf (o:=0) (vs:=[.bool b3,.int .u64 l3,.string s3,.int .u64 l4,.string s4]) hb
  have Ex:Below s W (W.setCells (s+1) 0 [.bool b3,.int .u64 l3,.string s3,.int .u64 l4,.string s4]):=((((((Below.refl s W).setCell (by show s<=s+1;omega) _).setCell (by show s<=s+1;omega) _).setCell (by show s<=s+1;omega) _).setCell (by show s<=s+1;omega) _).setCell (by show s<=s+1;omega) _)
  have hKD:(W.setCells (s+1) 0 [.bool b3,.int .u64 l3,.string s3,.int .u64 l4,.string s4]).heap[D]? = some (.deferred (some [])):=(gm (dw.1 hK').1 (by omega)).trans hK'
  generalize W.setCells (s+1) 0 [.bool b3,.int .u64 l3,.string s3,.int .u64 l4,.string s4]=W5 at *
  refine ⟨by simp,.inl ⟨_,_,rfl,run_takeDeferred hKD,?_⟩⟩
  refine ⟨_,results_cell_row (p:=4) rfl _ _ (s+1) 42 #[.bool b3,.int .u64 l3,.string s3,.int .u64 l4,.string s4] (0,0) _ rfl ((World.putObj_heap_other (by omega)).trans cF) Tryz.underlying42 rfl (by kernel_rfl),?_,?_⟩
  ·show _=Ending.returned (Value.agg (qC _).toArray)
   rw [hq6]
  ·exact Ext.of s hs0 ((h4.trans Ex).trans (belowK_b (w:=W0) (by omega) W5 D _ _ hD hKD rfl rfl))
 case stop=>
  rintro D c pre W _ _ h _
  exact h.elim
theorem aLB {B:Nat} (xs:List Rat) (hs:∀j,Sq B (co xs j)) (x:Rat):∀k,k<=xs.length->azv x (upA (bkE xs hs) k)*x^(xs.length-k)+evP (co xs) x (xs.length-k)=evP (co xs) x xs.length
 | 0,_=>by show azv x (upA (bkE xs hs) 0)*_+_=_;rw [show azv x (upA (bkE xs hs) 0)=0 from rfl,Nat.sub_zero,yV,Gt]
 | k+1,hk=>by
  have ih:=aLB xs hs x k (by omega);obtain ⟨m,hm⟩:∃m,xs.length-k=m+1:=⟨xs.length-k-1,by omega⟩
  rw [aJg,aHr,show xs.length-(k+1)=m by omega,show ((bkE xs hs k).1.2:Rat)=co xs m by show co xs (xs.length-1-k)=_;rw [show xs.length-1-k=m by omega]];rw [hm] at ih;rw [<-ih];show _=_+(evP (co xs) x m+co xs m*x^m)
  rw [CW];grind
theorem aKF {B:Nat} (xs:List Rat) (hs:∀j,Sq B (co xs j)) (x:Rat):azv x (upA (bkE xs hs) xs.length)=evP (co xs) x xs.length:=by
 have h:=aLB xs hs x xs.length (aV _);rw [yn,Gq,EN] at h;rw [<-h];show _=_+(0:Rat)
 rw [Rat.add_zero]
def AtP (xs:List Rat) (x:Rat):Prop:=∃B C,SL B xs/\Sq C x/\(xs.length+1)*(B+C+1)+1<=BQ/\xs.length<=1000000
def aNt:az:=⟨15,false,on2 (.list .q) .q (fun xs x=>some (AtP xs x)) fun xs x=>.k .q (evP (co xs) x xs.length)⟩
theorem aNh (xs:List Rat) (x:Rat) (hg:AtP xs x) (w:World) (v:Value) (ht:cK w) (hv:aq (fun _=>True) w dX (.k (.list .q) xs) v) :
  Calls Tryz.prog 15 #[v,qCv x] w fun e w'=>e = .returned (qCv (evP (co xs) x xs.length))/\Ext w w':=by
 obtain ⟨B,C,h1,h2,h3,h4⟩:=hg
 have hs:∀j,Sq B (co xs j):=fun j=>by have h:=h1;unfold SL at h;exact h j
 refine Calls.mono (aMI xs x hs h2 h4 h3 w v ht hv) fun e w' ⟨h5,h6⟩=>?_
 rw [aKF] at h5
 exact ⟨h5,h6⟩
theorem aMJ:ah (cfg []) aNt:=iN (enters_of Tryz.func15 (by kernel_rfl) rfl) (fun _ _=>rfl) fun F xs x u v w hg ht hu hv=>by
 obtain ⟨cs,lz,rfl⟩:=hv;have e:pack (AV.k .q x).row cs=qCv x:=by rw [show cs=qC x from lz];rfl
 rw [e];exact Calls.mono (aNh xs x hg w u ht (hu.ak (.aO (Ext.refl w)) (fun _ _ _=>trivial) fun _ _=>rfl)) fun e w' ⟨h5,h6⟩=>⟨_,h5,h6,⟨_,rfl,rfl⟩⟩
def syR (c:Rat) (f:Nat->Rat):Nat->Nat->Rat
 | 0,_=>0
 | m+1,j=>f j+syR c f m (j+1)*c
def syF (c:Rat) (f:Nat->Rat) (n j:Nat):Rat:=syR c f (n-j) j
def moP (c:Rat) (f:Nat->Rat) (n m k:Nat):Rat:=if m<=k then syF c f n k else f k
def moA (c:Rat) (f:Nat->Rat) (n:Nat):Nat->Nat->Rat
 | 0=>f
 | i+1=>moP c (moA c f n i) n i
theorem aEF (c:Rat) (f:Nat->Rat) (n j:Nat) (h:n<=j):syF c f n j=0:=by unfold syF;rw [show n-j=0 by omega];rfl
theorem aGh (c:Rat) (f:Nat->Rat) {n j:Nat} (h:j<n):syF c f n j=f j+syF c f n (j+1)*c:=by unfold syF;rw [show n-j=(n-(j+1))+1 by omega];rfl
theorem Cm.moP {s t:Nat} {f:Nat->Rat} {c:Rat} (hf:Cm s f) (hc:Sq t c) (t1:1<=t) (n m:Nat):Cm (s+n*(t+1)+2) (AM.moP c f n m):=by
 obtain ⟨D,d0,dn,hf⟩:=hf;have kf:((c.den:Nat):Int)≠0:=by have:=c.den_pos;omega
 have hbs:Sm t ((c.den:Nat):Int).natAbs:=hc.den;have Ie:c*(((c.den:Nat):Int):Rat)=(c.num:Rat):=by have h1:(((c.den:Nat):Int):Rat)≠0:=au7 kf;have h2:mkRat c.num c.den=c:=uZ c;rw [Rat.mkRat_eq_div] at h2;have h3:=Rat.div_mul_cancel (a:=(c.num:Rat)) h1;rw [show (((c.den:Nat):Int):Rat)=((c.den:Nat):Rat) from rfl,h2] at h3;exact h3
 generalize ((c.den:Nat):Int)=b at *
 have pb:∀k:Nat,Sm (k*t+1) (b^k).natAbs:=fun k=>Sm.aHB hbs t1 k;have pz:∀k,((b^k:Int):Rat)=(b:Rat)^k:=fun k=>Rat.intCast_pow b k;have key:∀m j,∃z:Int,Sm (s+1+m*(t+1)) z.natAbs/\syR c f m j*((D:Rat)*(b:Rat)^m)=(z:Rat):=by
  intro m;induction m with
  | zero=>exact fun j=>⟨0,Sm.zero _,yV _⟩
  | succ m ih=>
   intro j;obtain ⟨z,z1,z2⟩:=ih (j+1);obtain ⟨u,u1,u2⟩:=hf j;refine ⟨u*b^(m+1)+z*c.num,?_,?_⟩
   ·refine ((u1.apF (pb (m+1))).S7 (z1.apF hc.num)).le ?_;rw [fi m 1 (t+1),kI,fi m 1 t,kI,nJ m t 1,pM];omega
   ·show (f j+syR c f m (j+1)*c)*_=_;rw [Rat.intCast_add,qY,qY, <- u2, <- z2,pz, <- Ie,CW];grind
 refine ⟨D*b^n,Cz d0 (Int.pow_ne_zero kf),?_,fun k=>?_⟩
 ·refine (dn.apF (pb n)).le ?_;rw [nJ n t 1,pM];omega
 ·unfold AM.moP;split
  ·unfold syF;obtain ⟨z,z1,z2⟩:=key (n-k) k;refine ⟨z*b^(n-(n-k)),?_,?_⟩
   ·refine (z1.apF (pb _)).le ?_;have e1:n*(t+1)=(n-k)*(t+1)+(n-(n-k))*(t+1):=by rw [<-fi];congr 1;omega
    have e2:(n-(n-k))*(t+1)=(n-(n-k))*t+(n-(n-k)):=by rw [nJ,pM]
    omega
   ·have e:((D*b^n:Int):Rat)=(D:Rat)*(b:Rat)^(n-k)*(b:Rat)^(n-(n-k)):=by
     rw [qY,pz,Db, <- aDT,show n-k+(n-(n-k))=n by omega]
    rw [e, <- Db,z2,qY,pz]
  ·obtain ⟨u,u1,u2⟩:=hf k;refine ⟨u*b^n,?_,?_⟩
   ·refine (u1.apF (pb n)).le ?_;rw [nJ n t 1,pM];omega
   ·rw [qY, <- Db,u2,qY]
theorem Cm.moA {s t:Nat} {f:Nat->Rat} {c:Rat} (hf:Cm s f) (hc:Sq t c) (t1:1<=t) (n:Nat):∀i,Cm (s+i*(n*(t+1)+2)) (AM.moA c f n i)
 | 0=>hf.le (by omega)
 | i+1=>((Cm.moA hf hc t1 n i).moP hc t1 n i).le (by rw [fi i 1,kI];omega)
def ap4 (p:List Rat) (c:Rat):List Rat:=SM (aA (SM p).length (moA c (co p) (SM p).length (SM p).length))
def MoF (p:List Rat) (c:Rat):Prop:=∃s t,1<=s/\1<=t/\Cm s (co p)/\Sq t c/\2*(s+((SM p).length+1)*((SM p).length*(t+1)+2))+t<=BQ/\p.length<=1000
theorem MoF.sq {p:List Rat} {c:Rat} (h:MoF p c) (i m k:Nat) (hi:i<=(SM p).length):Sq BQ (moP c (moA c (co p) (SM p).length i) (SM p).length m k)/\Sq BQ (moP c (moA c (co p) (SM p).length i) (SM p).length m k*c)/\Sq BQ (moA c (co p) (SM p).length i k)/\Sq BQ c:=by obtain ⟨s,t,s1,t1,hp,hc,hB,_⟩:=h;have hA:=Cm.moA hp hc t1 (SM p).length i;have hP:=hA.moP hc t1 (SM p).length m;have hm:=ba ((SM p).length*(t+1)+2) hi;rw [fi,kI] at hB;have e1:=hP.sq (by omega) k;exact ⟨e1.le (by omega),(e1.mul hc).le (by omega),(hA.sq (by omega) k).le (by omega),hc.le (by omega)⟩
noncomputable def LMv:List az:=aHE::xK::xM::[]
theorem aNj:bd LMv:=⟨aGx,pI,pJ,trivial⟩
def foMov:List AV->Option (Option Prop×AV×List Ob)
 | [.k (.list .q) p,.k .q c]=>some (some (MoF p c),.k (.list .q) (ap4 p c),[])
 | _=>none
def aMV:az:=⟨16,false,foMov⟩
def aMW (p:List Rat) (c:Rat):bk:=⟨fun key_=>match key_ with | 8=>13 | _=>0,fun key_=>match key_ with
 | 3=>some (⟨Nat,fun i=>[(3,.pt 3 0 5 0 0),(5,.own 9 0 5),(11,.k (.int .i64) (((SM p).length:Nat):Int)),(12,.k (.int .i64) ((i:Nat):Int))],fun i=>[(3,.box 42 (.k .q c)),(9,.arr 42 .q (aA (SM p).length (moA c (co p) (SM p).length i)))],fun _ i=>i<=(SM p).length,fun i=>(SM p).length-i⟩)
 | 6=>some (⟨Nat×Nat,fun x=>[(3,.pt 3 0 5 0 0),(5,.own 9 0 5),(6,.k (.int .i64) ((x.1:Nat):Int)),(7,.k (.int .i64) (((x.2:Nat):Int)-1)),(11,.k (.int .i64) (((SM p).length:Nat):Int)),(12,.k (.int .i64) ((x.1:Nat):Int))],fun x=>[(3,.box 42 (.k .q c)),(9,.arr 42 .q (aA (SM p).length (moP c (moA c (co p) (SM p).length x.1) (SM p).length x.2)))],fun q x=>x.1=q.1/\x.1<=x.2/\x.2+1<=(SM p).length,fun x=>x.2-x.1⟩) | _=>none,nR,nU⟩
def aLM (p:List Rat) (c:Rat):Prop:=
 let t1:=(↑(SM p).length:Int);
 SL BQ p/\((SM p).length<=aB->∃(x0:Nat),((t1=t1/\(0:Int)=(↑x0:Int))/\c=c/\SM p=aA (SM p).length (moA c (co p) (SM p).length x0))/\x0 <=
 (SM p).length/\∀(x:Nat),let u2:=aA (SM p).length (moA c (co p) (SM p).length x);x<=(SM p).length->bif decide ((↑x:Int)<t1) then u2.length<=aB
 -> ab ((↑u2.length:Int)-(2:Int))/\∃(x0b:Nat×Nat),(((↑x:Int)=(↑x0b.1:Int)/\(↑u2.length:Int)-(2:Int)=(↑x0b.2:Int)-(1:Int)/\t1=t1/\(↑x
 : Int)=(↑x0b.1:Int))/\c=c/\aA (SM p).length (moA c (co p) (SM p).length x)=aA (SM p).length (moP c (moA c (co p) (SM p).length x0b.1) (SM
 p).length x0b.2))/\(x0b.1=x0b.1/\x0b.1<=x0b.2/\x0b.2+(1:Nat)<=(SM p).length)/\∀(y1:Nat×Nat),let u4:=(↑y1.2:Int)-(1:Int);
 let u3:=(↑y1.2:Int)-(1:Int)+(1:Int);let u1:=aA (SM p).length (moP c (moA c (co p) (SM p).length y1.1) (SM p).length y1.2);y1.1=x0b.1/\y1.1 <=
 y1.2/\y1.2+(1:Nat)<=(SM p).length->bif decide ((↑y1.1:Int)<=(↑y1.2:Int)-(1:Int)) then ((0:Int)<=(↑y1.2:Int)-(1:Int)/\(↑y1.2:Int)-(1 :
 Int)<(↑u1.length:Int))/\u4.toNat<u1.length/\ab u3/\((0:Int)<=(↑y1.2:Int)-(1:Int)+(1:Int)/\(↑y1.2:Int)-(1:Int)+(1:Int)<(↑u1.length :
 Int))/\u3.toNat<u1.length/\(Sq BQ (u1.getD u3.toNat (0:Rat))/\Sq BQ c)/\(Sq BQ (u1.getD u4.toNat (0:Rat))/\Sq BQ (u1.getD u3.toNat (0:Rat)*c))/\((0:Int)
 <= (↑y1.2:Int)-(1:Int)/\(↑y1.2:Int)-(1:Int)<(↑u1.length:Int))/\u4.toNat<u1.length/\ab ((↑y1.2:Int)-(1:Int)-(1:Int))/\∃(x':Nat×Nat),
 (((↑y1.1:Int)=(↑x'.1:Int)/\(↑y1.2:Int)-(1:Int)-(1:Int)=(↑x'.2:Int)-(1:Int)/\t1=t1/\(↑y1.1:Int)=(↑x'.1:Int))/\c=c/\u1.set u4.toNat
 (u1.getD u4.toNat (0:Rat)+u1.getD u3.toNat (0:Rat)*c)=aA (SM p).length (moP c (moA c (co p) (SM p).length x'.1) (SM p).length x'.2))/\(x'.1=x0b.1 /\
 x'.1<=x'.2/\x'.2+(1:Nat)<=(SM p).length)/\x'.2-x'.1<y1.2-y1.1 else ab ((↑y1.1:Int)+(1:Int))/\∃(x'b:Nat),((t1=t1/\(↑y1.1:Int)+(1 :
 Int)=(↑x'b:Int))/\c=c/\aA (SM p).length (moP c (moA c (co p) (SM p).length y1.1) (SM p).length y1.2)=aA (SM p).length (moA c (co p) (SM
 p).length x'b))/\x'b<=(SM p).length/\(SM p).length-x'b<(SM p).length-x else SL BQ u2/\SM u2=ap4 p c)
theorem aMm (p:List Rat) (c:Rat):aw LMv [] (aMW p c) Tryz.f16 (.k (.list .q) (ap4 p c)) [.k (.list .q) p,.k .q c]=aLM p c:=by kernel_rfl
theorem aMn (p:List Rat) (c:Rat) (hg:MoF p c):aLM p c:=by
 unfold aLM;dsimp only;have hsq:=MoF.sq hg;obtain ⟨s,t,s1,t1,hp,hc,hB,hl⟩:=hg;have hA0:=auw p;have SY:SL BQ p:=SL.le (Cm.sl hp s1) (by have:=CH s (show 0<2 by omega);omega)
 refine ⟨SY,fun _=>?_⟩;unfold ap4;have e0:SM p=aA (SM p).length (moA c (co p) (SM p).length 0):=by refine (ad3 (SM p) 0).symm.trans (bE fun k _=>amP p k)
 generalize hN:(SM p).length=N at *
 refine ⟨0,⟨⟨rfl,rfl⟩,rfl,e0⟩,ja _,fun i hi=>aH (fun h=>?_) fun h=>?_⟩
 ·have cw:i<N:=by omega
  rw [mX];refine fun _=>⟨⟨by omega,by omega⟩,(i,N-1),⟨⟨rfl,by dsimp only;omega,rfl,rfl⟩,rfl,bE fun k hk=>?_⟩,⟨rfl,by dsimp only;omega,by dsimp only;omega⟩,?_⟩
  ·(try dsimp only);unfold moP;by_cases l:N-1<=k
   ·have e:k=N-1:=by omega
    subst e;rw [nM l,aGh _ _ (by omega),aEF _ _ _ _ (by omega),yV,Rat.add_zero]
   ·rw [iS l]
  ·rintro ⟨i',m⟩ ⟨hy,Y2,OQ⟩;dsimp only at hy Y2 OQ ⊢;subst hy;rw [mX];refine aH (fun h5=>?_) fun h5=>?_
   ·obtain ⟨j,rfl⟩:∃j,m=j+1:=⟨m-1,by omega⟩
    have e1:(((j+1:Nat):Int)-1).toNat=j:=by omega
    have e2:(((j+1:Nat):Int)-1+1).toNat=j+1:=by omega
    rw [e1,e2,fW (show j<N by omega),fW (show j+1<N by omega)];have q1:=hsq i' (j+1) (j+1) hi;have q2:=hsq i' (j+1) j hi;refine ⟨⟨by omega,by omega⟩,by omega,⟨by omega,by omega⟩,⟨by omega,by omega⟩,by omega,⟨q1.1,q1.2.2.2⟩,⟨q2.1,q1.2.1⟩,⟨by omega,by omega⟩,by omega,⟨by omega,by omega⟩,(i',j),⟨⟨rfl,by dsimp only;omega,rfl,rfl⟩,rfl,?_⟩,⟨rfl,by dsimp only;omega,by dsimp only;omega⟩,by dsimp only;omega⟩;rw [mY (show j<N by omega)];refine bE fun k hk=>?_;(try dsimp only);unfold moP;by_cases e:k=j
    ·subst e;rw [nM rfl,iS (by omega),nM (aV _),nM (aV _),aGh _ _ hk]
    ·rw [iS e];by_cases l:j+1<=k
     ·rw [nM l,nM (by omega)]
     ·rw [iS l,iS (by omega)]
   ·have e:m=i':=by omega
    subst e;exact ⟨⟨by omega,by omega⟩,m+1,⟨⟨rfl,rfl⟩,rfl,rfl⟩,by omega,by omega⟩
 ·have e:i=N:=by omega
  subst e;exact ⟨SL.mk (fun k _=>(hsq i 0 k (aV _)).2.2.1) BQp,rfl⟩
theorem aMo:ah (cfg []) aMV:=cf aNj bp Tryz.func16 (by kernel_rfl) fun args g r hn hc hg hf=>by
 replace hc:foMov args=some (g,r,hn):=hc;unfold foMov at hc;split at hc
 ·obtain ⟨rfl,rfl,rfl⟩:=aN hc;cases aY (aMm _ _) (aMn _ _ hg);exact ⟨rfl,by kernel_rfl,_,by assumption⟩
 ·cases hc
def deN (K:Kd):AV->AV
 | .dv=>.k (.list K) ([]:List K.T)
 | x=>x
theorem aMC {ok:Nat->Prop} {w:World} {β:Bm} {K:Kd} {v:Value} (h:aq ok w β .dv v):aq ok w β (.k (.list K) ([]:List K.T)) v:=by obtain ⟨c,hc,rfl⟩:=h;have hc:c=[.slice none 0 0]:=hc;subst hc;exact ⟨_,⟨none,0,rfl,aV _,ja _,fun h=>absurd rfl h⟩,rfl⟩
theorem aLA {F:Nat->Prop} {w:World} {β:Bm} {K:Kd}:∀{args:List AV} {vs:List Value},VL F w β args vs->VL F w β (args.map (deN K)) vs
 | [],_,h=>h
 | a::as_,[],h=>h.elim
 | a::as_,v::vs,h=>by
  refine ⟨?_,aLA h.2⟩
  cases a with
  | dv=>exact aMC h.1
  | _=>exact h.1
def nlC (K:Kd) (c:az):az:=⟨c.f,c.fresh,fun args=>c.c (args.map (deN K))⟩
theorem aE1 {K:Kd} {c:az} (hc:ah (cfg []) c):ah (cfg []) (nlC K c) where
 mu:=hc.mu
 ok args g r hn h hg F w vs iW mB:=hc.ok (args.map (deN K)) g r hn h hg F w vs iW (aLA mB)
def aKP:az:=nlC .q aF8
theorem aKQ:ah (cfg []) aKP:=aE1 aFF
def aLE:az:=nlC .q aHY
theorem aLt:ah (cfg []) aLE:=aE1 aGY
def aLF:az:=nlC .q aFl
theorem aLu:ah (cfg []) aLF:=aE1 aD4
def aLG:az:=nlC .q aHH
theorem aLw:ah (cfg []) aLG:=aE1 aGC
noncomputable def LKq:List az:=aa7::[]
theorem aNn:bd LKq:=⟨WL,trivial⟩
def fhInRowO:List AV->Option (Option Prop×AV×List Ob)
 | [.k (.list .rq) xs]=>some (some (SL BQ xs),.own 0 0 5,[.arr 42 .q xs])
 | _=>none
def aI6:az:=⟨4,false,fhInRowO⟩
def aKR (xs:List Rat):bk:=⟨nU,fun key_=>match key_ with
 | 3=>some (⟨Nat,fun i=>[(0,.k (.list .rq) xs),(3,.own 3 0 5),(4,.k (.int .i64) ((i:Nat):Int))],
 fun i=>[(3,.arr 42 .q (xs.take i))],fun _ i=>i<=xs.length,fun i=>xs.length-i⟩) | _=>none,nR,nU⟩
def aDQ (xs:List Rat):Prop:=∃(x0:Nat),((xs=xs/\(0:Int)=(↑x0:Int))/\List.take x0 xs=[])/\x0<=xs.length/\∀(x:Nat),x<=xs.length->xs.length<=aB->bif decide ((↑x:Int) <
 (↑xs.length:Int)) then ((0:Int)<=(↑x:Int)/\(↑x:Int)<(↑xs.length:Int))/\Sq BQ (xs.getD (↑x:Int).toNat (0:Rat))/\(List.take x xs).length+[xs.getD (↑x
 : Int).toNat (0:Rat)].length<=aB/\ab ((↑x:Int)+(1:Int))/\∃(x':Nat),((xs=xs/\(↑x:Int)+(1:Int)=(↑x':Int))/\(List.take x xs).append [xs.getD
 (↑x:Int).toNat (0:Rat)]=List.take x' xs)/\x'<=xs.length/\xs.length-x'<xs.length-x else List.take x xs=xs
theorem aJV (xs:List Rat):awp (cfg LKq []) (aKR xs) Tryz.f4.ntmps (Tryz.f4.body.getD .skip) (jj Tryz.f4.results.toList (.own 0 0 5) 3 (.arr 42 .q xs)) ⟨eP 0 [.k (.list .rq) xs],[]⟩=aDQ xs:=by kernel_rfl
theorem aJZ (xs:List Rat) (hg:SL BQ xs):aDQ xs:=by unfold aDQ;refine ⟨0,⟨⟨rfl,rfl⟩,rfl⟩,ja _,fun i hi hL=>aH (fun h=>⟨⟨by omega,h⟩,hg i,by unfold aB at hL ⊢;simp;omega,⟨by unfold aB at hL;omega,by unfold aB at hL;omega⟩,i+1,⟨⟨rfl,rfl⟩,qW (by omega)⟩,by omega,by omega⟩) fun h=>?_⟩;exact ia (by omega)
theorem aJ1:ah (cfg []) aI6:=oY aNn bp Tryz.func4 (by kernel_rfl) (by kernel_rfl) rfl fun args g r hn hc hg hf=>by
 replace hc:fhInRowO args=some (g,r,hn):=hc;unfold fhInRowO at hc;split at hc
 ·obtain ⟨rfl,rfl,rfl⟩:=aN hc;have hv:=aJZ _ hg
  cases aY (aJV _) hv;exact ⟨by kernel_rfl,_,3,_,rfl,rfl,rfl,by assumption⟩
 ·cases hc
theorem RsF.small {p q:List Rat} (hp:Cm 8 (co p)) (hq:Cm 8 (co q)) (lp:p.length<=4) (lq:q.length<=4):RsF p q:=by
 refine ⟨8,by omega,hp,hq,?_,?_,?_⟩
 ·have h1:=auw p;have h2:=auw q;have k1:=cM (show 0<3 by decide) (show (SM p).length<=4 by omega);have k2:=cM (show 0<3 by decide) (show (SM q).length<=4 by omega);unfold pot;split <;> omega
 ·have:=auw p;omega
 ·have:=auw q;omega
theorem aNr:FcF [((0:Int):Rat),((0:Int):Rat),((1:Int):Rat)]/\aAw [((0:Int):Rat),((0:Int):Rat),((1:Int):Rat)]=[[((1:Int):Rat)],[((0:Int):Rat),((1:Int):Rat)]]:=by
 have c3:Cm 8 (co [((0:Int):Rat),((0:Int):Rat),((1:Int):Rat)]):=cm3 (by decide) (by decide) (by decide);have ed:auM [((0:Int):Rat),((0:Int):Rat),((1:Int):Rat)]=[((0:Int):Rat),((2:Int):Rat)]:=by kernel_rfl
 have eg:ajJ [((0:Int):Rat),((0:Int):Rat),((1:Int):Rat)] [((0:Int):Rat),((2:Int):Rat)]=[((0:Int):Rat),((1:Int):Rat)]:=by kernel_rfl
 have ef:ovL [((0:Int):Rat),((0:Int):Rat),((1:Int):Rat)] [((0:Int):Rat),((1:Int):Rat)]=[((0:Int):Rat),((1:Int):Rat)]:=by kernel_rfl
 have eg2:ajJ [((0:Int):Rat),((1:Int):Rat)] [((0:Int):Rat),((1:Int):Rat)]=[((0:Int):Rat),((1:Int):Rat)]:=by kernel_rfl
 have eo2:ovL [((0:Int):Rat),((1:Int):Rat)] [((0:Int):Rat),((1:Int):Rat)]=[((1:Int):Rat)]:=by kernel_rfl
 have eg3:ajJ [((0:Int):Rat),((1:Int):Rat)] [((1:Int):Rat)]=[((1:Int):Rat)]:=by kernel_rfl
 have eo3:ovL [((1:Int):Rat)] [((1:Int):Rat)]=[((1:Int):Rat)]:=by kernel_rfl
 have d2:Cm 8 (co [((0:Int):Rat),((2:Int):Rat)]):=cm2 (by decide) (by decide);have g2:Cm 8 (co [((0:Int):Rat),((1:Int):Rat)]):=cm2 (by decide) (by decide);have o1:Cm 8 (co [((1:Int):Rat)]):=cm1 (by decide);refine ⟨⟨⟨⟨8,by omega,c3,by unfold BQ;omega⟩,?_,?_⟩,?_⟩,by kernel_rfl⟩
 ·rw [ed];exact .small c3 d2 (by simp) (by simp)
 ·rw [ed,eg];exact .small c3 g2 (by simp)
 ·unfold frL;rw [ed,eg,ef];refine fun _=>⟨.small g2 g2 (by simp) (by simp),by rw [eg2];exact .small g2 g2 (by simp),by rw [eg2];exact .small g2 g2 (by simp),?_⟩
  rw [eg2,eo2];refine fun _=>⟨.small g2 o1 (by simp) (by simp),by rw [eg3];exact .small g2 o1 (by simp),by rw [eg3];exact .small o1 o1 (by simp),?_⟩
  rw [eg3,eo3];exact fun h=>absurd h (by simp)
theorem aO7:FcF [((5:Int):Rat)]:=by
 have c1:Cm 8 (co [((5:Int):Rat)]):=cm1 (by decide);have ed:auM [((5:Int):Rat)]=[]:=by kernel_rfl
 have eg:ajJ [((5:Int):Rat)] []=[((1:Int):Rat)]:=by kernel_rfl
 have ef:ovL [((5:Int):Rat)] [((1:Int):Rat)]=[((1:Int):Rat)]:=by kernel_rfl
 have o1:Cm 8 (co [((1:Int):Rat)]):=cm1 (by decide);have c0:Cm 8 (co []):=Cm.nil (by omega) rfl;refine ⟨⟨⟨8,by omega,c1,by unfold BQ;omega⟩,?_,?_⟩,?_⟩
 ·rw [ed];exact .small c1 c0 (by simp) (by simp)
 ·rw [ed,eg];exact .small c1 o1 (by simp)
 ·unfold frL;rw [ed,eg,ef];exact fun h=>absurd h (by simp)
noncomputable def LKn:List az:=aDE::aI6::xQ::aa5::aH0::aEl::aLE::aKP::aLG::aLF::aa9::aNt::aMV::aJ6::[]
theorem aNs:bd LKn:=⟨aDP,aJ1,mV,V5,aG1,aCF,aLt,aKQ,aLw,aLu,WS,aMJ,aMo,aJY,trivial⟩
def fjPKnown:List AV->Option (Option Prop×AV×List Ob)
 | []=>some (none,.k .bool true,[])
 | _=>none
def aL9:az:=⟨3,false,fjPKnown⟩
def aKS  : bk:=⟨nU,nL,nR,nU⟩
def aEd  : Prop:=
 let t1:=(↑(0:Int):Rat);
 let t2:=(↑(1:Int):Rat);
 let t3:=(↑(-1:Int):Rat);
 ab (0:Int)/\ab (0:Int)/\ab (1:Int)/\SL BQ [t1,t1,t2]/\FcF [t1,t1,t2]/\ab (0:Int)/\DvF [t1,t1,t2] [t1]/\ab (-1:Int)/\ab (0:Int) /\
 ab (1:Int)/\SL BQ [t3,t1,t2]/\ab (-2:Int)/\ab (1:Int)/\SL BQ [(↑(-2:Int):Rat),t2]/\(SL BQ [t3,t1,t2]/\SL BQ [(↑(-2:Int):Rat),t2]/\((SM
 [t3,t1,t2]).length≠(0:Nat)->(SM [(↑(-2:Int):Rat),t2]).length≠(0:Nat)->RsF [t3,t1,t2] [(↑(-2:Int):Rat),t2]))/\((aAw [t1,t1,t2]).length<=aB
 -> ((0:Int)<=(0:Int)/\(0:Int)<(↑(aAw [t1,t1,t2]).length:Int))/\TxP ((aAw [t1,t1,t2]).getD (Int.toNat (0:Int)) [])/\((0:Int)<=(1:Int)/\(1:Int)
 < (↑(aAw [t1,t1,t2]).length:Int))/\TxP ((aAw [t1,t1,t2]).getD (Int.toNat (1:Int)) [])/\SL BQ []/\ab (0:Int)/\SL BQ [t1]/\TxP []/\(Sq BQ (anu [t3,t1,
 t2] [(↑(-2:Int):Rat),t2])/\ab (3:Int)/\ab (1:Int)/\(1:Int)≠(0:Int))/\GcF [] []/\((ajJ [] []).length<=aB->ab (5:Int)/\FcF [(↑(5:Int) :
 Rat)]/\((aAw [(↑(5:Int):Rat)]).length<=aB->(SL BQ []/\SL BQ [t1,t1,t2]/\((SM []).length≠(0:Nat)->(SM [t1,t1,t2]).length≠(0:Nat)->RsF []
 [t1,t1,t2]))/\(Sq BQ (anu [] [t1,t1,t2])/\ab (0:Int)/\ab (1:Int)/\(1:Int)≠(0:Int))/\ab (-1:Int)/\ab (-1:Int)/\SL BQ [t3,t3]/\TxP [t3,
 t3]/\ab (1:Int)/\MoF [t1,t1,t2] t2/\ab (2:Int)/\AtP (ap4 [t1,t1,t2] t2) (↑(2:Int):Rat)/\(Sq BQ (evP (co (ap4 [t1,t1,t2] t2)) (↑(2:Int):Rat)
 (ap4 [t1,t1,t2] t2).length)/\ab (9:Int)/\ab (1:Int)/\(1:Int)≠(0:Int))/\ab (0:Int)/\ab (0:Int)/\ab (1:Int)/\SL BQ [t1,t1,t2]/\ab
 (0:Int)/\[t1,t1,t2].length+[t1].length<=aB/\(SL BQ [t1,t1,t2]/\SL BQ ([t1,t1,t2].append [t1]))/\decide (SM [t1,t1,t2]=SM ([t1,t1,t2].append
 [t1]))=true)))
theorem aJ2  : aw LKn [] (aKS ) Tryz.f3 (.k .bool true) []=aEd  :=by kernel_rfl
theorem aKe  (hf:cJ []):aEd  :=by
 unfold aEd;dsimp only;obtain ⟨hF,hE⟩:=aNr;rw [hE];have i0:ab 0:=⟨by omega,by omega⟩
 have i1:ab 1:=⟨by omega,by omega⟩
 have im:ab (-1):=⟨by omega,by omega⟩
 have im2:ab (-2):=⟨by omega,by omega⟩
 have i2:ab 2:=⟨by omega,by omega⟩
 have i3:ab 3:=⟨by omega,by omega⟩
 have i5:ab 5:=⟨by omega,by omega⟩
 have i9:ab 9:=⟨by omega,by omega⟩
 have b1:(1:Nat)<=BQ:=BQp;have q1:∀z:Int,z.natAbs<256->Sq BQ (z:Rat):=fun z hz=>(Sq.int (k:=8) (fO (by omega)) (by omega)).le (by unfold BQ;omega);have t1:QtP (aqR ((1:Int):Rat)):=⟨by decide,.inl (by decide),fun h=>absurd (by decide) h,q1 1 (by decide)⟩
 have tm:QtP (aqR ((-1:Int):Rat)):=⟨by decide,.inl (by decide),fun h=>absurd (by decide) h,q1 1 (by decide)⟩
 have aJd:Cm 8 (co [((0:Int):Rat),((0:Int):Rat),((1:Int):Rat)]):=cm3 (by decide) (by decide) (by decide);have aME:Cm 8 (co [((-1:Int):Rat),((0:Int):Rat),((1:Int):Rat)]):=cm3 (by decide) (by decide) (by decide);have aM5:Cm 8 (co [((-2:Int):Rat),((1:Int):Rat)]):=cm2 (by decide) (by decide);have c0:Cm 8 (co [((0:Int):Rat)]):=cm1 (by decide);have cmm:Cm 8 (co [((-1:Int):Rat),((-1:Int):Rat)]):=cm2 (by decide) (by decide);have cn:Cm 8 (co []):=Cm.nil (by omega) rfl;have aO8:Cm 8 (co [((0:Int):Rat),((0:Int):Rat),((1:Int):Rat),((0:Int):Rat)]):=cm4 (by decide) (by decide) (by decide) (by decide);have sl:∀{xs:List Rat},Cm 8 (co xs)->SL BQ xs:=fun h=>(h.sl (by omega)).le (by unfold BQ;omega);have em:ap4 [((0:Int):Rat),((0:Int):Rat),((1:Int):Rat)] ((1:Int):Rat)=[((1:Int):Rat),((2:Int):Rat),((1:Int):Rat)]:=by kernel_rfl
 have e9:evP (co [((1:Int):Rat),((2:Int):Rat),((1:Int):Rat)]) ((2:Int):Rat) [((1:Int):Rat),((2:Int):Rat),((1:Int):Rat)].length=((9:Int):Rat):=by kernel_rfl
 have er:anu [((-1:Int):Rat),((0:Int):Rat),((1:Int):Rat)] [((-2:Int):Rat),((1:Int):Rat)]=((3:Int):Rat):=by kernel_rfl
 have er0:anu [] [((0:Int):Rat),((0:Int):Rat),((1:Int):Rat)]=((0:Int):Rat):=by kernel_rfl
 rw [em,er,er0,e9];have aQV:Cm 8 (co [((1:Int):Rat),((2:Int):Rat),((1:Int):Rat)]):=cm3 (by decide) (by decide) (by decide);have tc:AtP [((1:Int):Rat),((2:Int):Rat),((1:Int):Rat)] ((2:Int):Rat):=⟨16,8,aQV.sl (by omega),Sq.int (fO (by decide)) (by omega),by unfold BQ;simp,by simp⟩
 have hmo:MoF [((0:Int):Rat),((0:Int):Rat),((1:Int):Rat)] ((1:Int):Rat):=by
  have hl:=auw [((0:Int):Rat),((0:Int):Rat),((1:Int):Rat)];have fk:(SM [((0:Int):Rat),((0:Int):Rat),((1:Int):Rat)]).length<=3:=hl;refine ⟨8,8,by omega,by omega,aJd,Sq.int (fO (by decide)) (by omega),?_,by simp⟩;generalize (SM [((0:Int):Rat),((0:Int):Rat),((1:Int):Rat)]).length=N at *
  have:=tP (show N+1<=4 by omega) (show N*(8+1)+2<=29 by omega);unfold BQ;omega
 have tx1:TxP [((1:Int):Rat)]:=by
  refine aEs (sl (cm1 (by decide))) (by simp) fun i hi ay=>?_;match i,hi with
  | 0,_=>exact t1
 have tx2:TxP [((0:Int):Rat),((1:Int):Rat)]:=by
  refine aEs (sl (cm2 (by decide) (by decide))) (by simp) fun i hi ay=>?_;match i,hi with
  | 0,_=>exact absurd rfl ay
  | 1,_=>exact t1
 have tx3:TxP [((-1:Int):Rat),((-1:Int):Rat)]:=by
  refine aEs (sl cmm) (by simp) fun i hi ay=>?_;match i,hi with
  | 0,_=>exact tm
  | 1,_=>exact tm
 have tx0:TxP []:=aEs (sl cn) (by simp) fun i hi _=>absurd hi (by simp);have L0:(3:Nat)+1<=aB:=by unfold aB;omega
 exact ⟨i0,i0,i1,sl aJd,hF,i0,.small aJd c0 (by simp),im,i0,i1,sl aME,im2,i1,sl aM5,⟨sl aME,sl aM5,fun _ _=>.small aME aM5 (by simp) (by simp)⟩,fun _=>⟨⟨by decide,by decide⟩,tx1,⟨by decide,by decide⟩,tx2,sl cn,i0,sl c0,tx0,⟨q1 3 (by decide),i3,i1,by decide⟩,.small cn cn (by simp) (by simp),fun _=>⟨i5,aO7,fun _=>⟨⟨sl cn,sl aJd,fun h=>absurd rfl h⟩,⟨q1 0 (by decide),i0,i1,by decide⟩,im,im,sl cmm,tx3,i1,hmo,i2,tc,⟨q1 9 (by decide),i9,i1,by decide⟩,i0,i0,i1,sl aJd,i0,L0,⟨sl aJd,sl aO8⟩,by kernel_rfl⟩⟩⟩⟩
theorem aKf:ah (cfg []) aL9:=cf aNs bp Tryz.func3 (by kernel_rfl) fun args g r hn hc hg hf=>by
 replace hc:fjPKnown args=some (g,r,hn):=hc;unfold fjPKnown at hc;split at hc
 ·obtain ⟨rfl,rfl,rfl⟩:=aN hc;cases aY (aJ2 ) (aKe  hf);exact ⟨rfl,by kernel_rfl,_,by assumption⟩
 ·cases hc
end Go.Proofs.YtcjeabdblhgblaaGreatDoor.AM
namespace Go.Proofs.YtcjeabdblhgblaaGreatDoor
open Go.ChangeShapes Go.WideShapes Go.ChangeAt Go.RowKit AM
theorem aEe {W:World} (h:laidMetH Tryz.prog Rows.polyKnownRow.laid W):cK W:=by
 have h1:laidMet Tryz.prog [("math/bits.deBruijn32tab",Rows.laid_math_bits_deBruijn32tab),("math/bits.deBruijn64tab",Rows.laid_math_bits_deBruijn64tab),("internal/strconv.uint64pow10",Rows.laid_internal_strconv_uint64pow10)] W:=h
 exact EU (by kernel_rfl) h1.tail
theorem aBO (H:Type) (enc:TypeId×Value->H) (W:World) (base:Nat) (args:Array Value) (ds gs:List (DataW H)) (before:List MemPlace)
  (fV:∀(j:Nat) t v,Tryz.f3.params[j]? = some t->args[j]? = some v->Value.okWide Tryz.prog W .any base t v)
  (hW:DataW.Whole enc Tryz.prog Tryz.f3.params.toList Rows.polyKnownSpec.vars false W args.toList ds gs before) (aan:cK W) :
  Calls Tryz.prog 3 args W fun e W'=>∃v,e = .returned v/\Rows.polyKnownSpec.post enc Tryz.prog Tryz.f3 false true false false W args v W':=by
 have YR:=hW
 obtain ⟨p,q,hA0,hV,rfl,hfz,hnd⟩:=hW
 have hA:DataW.TrodAll enc Tryz.prog W 0 (fun _=>true) true Tryz.f3.params.toList args.toList ds p:=hA0
 rw [Tryz.params3] at hA fV
 obtain ⟨IE,rfl,rfl⟩:=trodAll_nil hA
 obtain rfl:args = #[]:=by cases args;simp_all
 obtain ⟨rfl,rfl⟩:=trodVars_none hV
 clear hA0
 refine (Mg (args:=[]) (vs:=[]) aKf rfl trivial aan trivial).mono fun e W' ⟨he,hg⟩=>?_
 subst he
 exact ⟨_,rfl,OV rfl rfl (fun t ht=>by rw [Tryz.params3] at ht;simp at ht) YR ⟨rfl,rfl,rfl⟩ hg⟩
theorem aIg (os:Os):laidMet Tryz.prog Rows.polyKnownRow.laid ((ac2 os).forCall (fun _ _=>0) ⟨#[],#[],[]⟩).memory:=laidMet_of_run' 8 (by kernel_rfl) (by kernel_rfl)
theorem aEg (os:Os) {H:Type} (enc:TypeId×Value->H):∃places,DataW.whole enc Tryz.prog ((ac2 os).forCall (fun _ _=>0) ⟨#[],#[],[]⟩).memory Tryz.f3.params.toList Rows.polyKnownSpec.vars false (#[]:Array Value).toList 8=some ([],[],places):=⟨[],by kernel_rfl⟩
theorem aCr (os:Os) (started:os.Started) (H:Type) (enc:TypeId×Value->H) (F:Stop.Interp) :
  ReturnsInHanded {} Tryz.checked os 3 .any ((OpenSpec.ofChange Rows.polyKnownSpec).preRow enc Tryz.prog Tryz.f3 Rows.polyKnownRow.domain false Rows.polyKnownRow.laid) (((OpenSpec.ofChange Rows.polyKnownSpec).at F).post enc Tryz.prog Tryz.f3 false true false false):=by
 obtain ⟨places,hx⟩:=aEg os enc
 refine returnsInHanded_of_row (C:=Tryz.checked) (s:=OpenSpec.ofChange Rows.polyKnownSpec) own started (by kernel_rfl) Tryz.func3
  (witness_row_at (enc:=enc) (C:=Tryz.checked) false (ac2 os) #[] rfl (by kernel_rfl) (by kernel_rfl) (by kernel_rfl)
   (OpenSpec.preRow_of_cond 8 hx (by kernel_rfl) (fun k hk=>by cases hk) (by kernel_rfl) (aIg os))) ?_
 intro W base args ds gs before fV hW _ _ _ hL _ _
 exact aBO H enc W base args ds gs before fV hW (aEe hL)
theorem aEj:Rows.PolyKnownSaid:=
 OpenClaim.holds_of_cond 3 Tryz.f3 rfl rfl rfl rfl rfl rfl rfl ⟨rfl,rfl,rfl,rfl,rfl⟩ rfl rfl rfl rfl rfl (by kernel_rfl) Tryz.func3 (by kernel_rfl)
  (AE (by kernel_rfl)) (by unfold Func.isWrapper;first | (rw [nM (by decide +kernel)];kernel_rfl) | (rw [iS (by decide +kernel)];exact ⟨rfl,rfl⟩))
  (fun os started H enc _ F=>by rw [OpenClaim.pre_eq_preRow];exact aCr os started H enc F)
theorem aEo (f:FuncId) (fn:Func) (hf:Tryz.pinned.checked.prog.funcNamed "abaculus/abaculuslaw13.PolyKnown" = some f) (hfn:Tryz.pinned.checked.prog.funcs[f]? = some fn) :
  false=Tryz.pinned.checked.prog.looks []/\∀(j:Nat) t,fn.params[j]? = some t->Tryz.pinned.checked.prog.wantsStandIn t=false:=by
 obtain rfl:f=3:=Option.some.inj ((show Tryz.prog.funcNamed "abaculus/abaculuslaw13.PolyKnown" = some 3 by kernel_rfl).symm.trans hf) |>.symm
 obtain rfl:fn=Tryz.f3:=(Option.some.inj (Tryz.func3.symm.trans hfn)).symm
 refine ⟨by kernel_rfl,fun j t ht=>?_⟩
 rw [Tryz.params3] at ht
 have hm:t∈[]:=by simpa using Array.mem_of_getElem? ht
 have bB:([].all fun u=> !Tryz.prog.wantsStandIn u)=true:=by kernel_rfl
 exact (show Tryz.prog.wantsStandIn t=false by simpa using xD.1 bB t hm)
theorem polyKnownCard_holds:Rows.PolyKnownCardSaid:=Claim7.holds_tied_plain_at .later [] _ _ _ _ aEj (fun _ h=>by cases h) (by kernel_rfl) (fun _ h=>by cases h) polyKnown_row_tie rfl ⟨rfl,rfl⟩ (by kernel_rfl) rfl aEo (by kernel_rfl)
#print axioms polyKnownCard_holds
end Go.Proofs.YtcjeabdblhgblaaGreatDoor
