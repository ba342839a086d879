/- The base of the proof: contracts of functions, the engine that shows them, and mathematics. -/
import Derived.Test.YtlijkeolpmgioaaGreatDoorBd11
set_option maxRecDepth 100000
set_option linter.unusedVariables false
set_option linter.unusedSimpArgs false
set_option maxHeartbeats 1000000
namespace Go.Proofs.YtlijkeolpmgioaaGreatDoor.AM
open Go.RowKit
def R2 (L:List Int):List Nat:=L.map Int.toNat
theorem ai4 (l:List Nat):R2 (K5 l)=l:=by unfold R2 K5;rw[List.map_map];exact(LI λx _=>rfl).trans (List.map_id l)
structure aeY (R:LM) (l:List Nat) (n:Nat):Prop where
 inc:∀k k',k<k'->k'<l.length->l.getD k 0<l.getD k' 0
 lt:∀k,k<l.length->l.getD k 0<n
 len:l.length<=R.length
 row:∀k,k<l.length->n<=(R.getD k []).length
 sm:SM BQ R
theorem amC {b:List Rat} {i:Nat} (h:i<b.length):aM9 b (some (i:Int)) (some ((i:Int)+1))=[b.getD i 0]:=by show(b.take ((i:Int)+1).toNat).drop (i:Int).toNat=_;rw[show((i:Int)+1).toNat=i+1 by omega,show(i:Int).toNat=i from rfl,uW h 0,List.drop_left' (by rw[kI];omega)]
def abJ (b:List Rat):LM:=aA b.length λi=>[b.getD i 0]
noncomputable def LX4:List az:=aa5::V9::[]
theorem afQ:bd LX4:=⟨V5,Qc,trivial⟩
def a2J:CF
 | [.k (.list .q) b]=>some (none,.k (.list (.list .q)) (abJ b),[])
 | _=>none
def ala:az:=⟨138,false,a2J⟩
def alE (b:List Rat):bk:=⟨nU,λkey_=>match key_ with
 | 3=>some (⟨Nat,λi=>[(0,.k (.list .q) b),(3,.own 7 0 1),(9,.k (.int .i64) ((b.length:Nat):Int)),(10,.k (.int .i64) ((i:Nat):Int))],
 λi=>[(7,.arr 43 (.list .q) (aA b.length λt=>if t<i then [b.getD t 0] else []))],λ_ i=>i<=b.length,λi=>b.length-i⟩) | _=>none,nR,nU⟩
def akx (b:List Rat):Prop:=b.length<=aB->(0<=(↑b.length:Int)/\(↑b.length:Int)<=(↑b.length:Int)/\(↑b.length:Int)<=(1099511627776:Int))/\(b.length<=aB->∃(x0:Nat),((b
 = b/\(↑b.length:Int)=↑b.length/\(0:Int)=(x0:Int))/\List.map (λ(p:Nat)=>[[]].getD p []) (List.replicate (↑b.length:Int).toNat (0:Nat)) =
 aA b.length λ(t:Nat)=>if t<x0 then [b.getD t 0] else [])/\x0<=b.length/\∀(x:Nat),let u1:=(x:Int)+1;x<=b.length->bif decide ((↑x
 : Int)<↑b.length) then ax u1/\ax u1/\rz b.length (some (x:Int)) (some u1) (some u1)/\(0<=(x:Int)/\(x:Int)<↑(aA b.length λ(t :
 Nat)=>if t<x then [b.getD t 0] else []).length)/\(x:Int).toNat<(aA b.length λ(t:Nat)=>if t<x then [b.getD t 0] else []).length
 /\ ax u1/\∃(x':Nat),((b=b/\(↑b.length:Int)=↑b.length/\(x:Int)+1=↑x')/\(aA b.length λ(t:Nat)=>if t<x then [b.getD t
 (0:Rat)] else []).set (x:Int).toNat (aM9 b (some (x:Int)) (some u1))=aA b.length λ(t:Nat)=>if t<x' then [b.getD t 0] else [])/\x'<=b.length
 /\ b.length-x'<b.length-x else (aA b.length λ(t:Nat)=>if t<x then [b.getD t 0] else [])=abJ b)
theorem ali (b:List Rat):aw LX4 [] (alE b) Tryz.f138 (.k (.list (.list .q)) (abJ b)) [.k (.list .q) b]=akx b:=by kernel_rfl
theorem alj (b:List Rat) (hf:cJ [.k (.list .q) b]):akx b:=by
 unfold akx;intro hL;have Bn:=hL;unfold aB at Bn;refine⟨⟨by omega,by omega,by omega⟩,λ_=>⟨0,⟨⟨rfl,rfl,rfl⟩,?_⟩,fi _,λi hi=>aH (λh=>?_) λh=>?_⟩⟩
 ·exact(List.map_replicate ..).trans ((iO _ _).trans (bE λt _=>(aI (ia t)).symm))
 ·have hi':i<b.length:=by omega
  refine⟨nQ hi' hL,nQ hi' hL,⟨by omega,by omega,by omega,rfl⟩,by rw[mX];exact idx h,by rw[mX];exact hi',nQ hi' hL,i+1,⟨⟨rfl,rfl,rfl⟩,?_⟩,by omega,by omega⟩;rw[show((i:Nat):Int).toNat=i from rfl,mY hi',amC hi'];refine bE λt _=>?_;by_cases e:t=i
  ·rw[aV e,aV (by omega),e]
  ·rw[aI e];by_cases e2:t<i
   ·rw[aV e2,aV (by omega)]
   ·rw[aI e2,aI (by omega)]
 ·exact bE λt ht=>aV (by omega)
theorem alk:aqJ (cfg []) ala:=cf afQ bp Tryz.func138 λa _ _ _ hc hg hf=>by change a2J a=_ at hc;unfold a2J at hc;split at hc<;>cases hc;cases aY (ali _) (alj _ hf);exact⟨rfl,by kernel_rfl,_,by assumption⟩
def ab6 (M N:LM):LM:=aA M.length λi=>M.getD i []++N.getD i []
def a2L:CF
 | [.k (.list (.list .q)) M,.k (.list (.list .q)) N]=>some (some (M.length<=N.length/\(∀i,i<M.length->0<(N.getD i []).length)/\∀i,i<M.length->(M.getD i []).length+(N.getD i []).length<=aB),.k (.list (.list .q)) (ab6 M N),[])
 | _=>none
def afj:az:=⟨137,false,a2L⟩
def ago (M N:LM):bk:=⟨λkey_=>match key_ with | 5=>12 | _=>0,λkey_=>match key_ with
 | 3=>some (⟨Nat,λi=>[(1,.k (.list (.list .q)) N),(5,.own 10 0 1),(11,.k (.list (.list .q)) M),(12,.k (.int .i64) ((M.length:Nat):Int)),(13,.k (.int .i64) ((i:Nat):Int))],
 λi=>[(10,.bc 43 55 .q (bh M.length i) ([]::aA i λt=>M.getD t []++N.getD t []))],λ_ i=>i<=M.length,λi=>M.length-i⟩) | _=>none,nR,nU⟩
def aeg (M N:LM):Prop:=M.length<=aB->(0<=(↑M.length:Int)/\(↑M.length:Int)<=(↑M.length:Int)/\(↑M.length:Int)<=(1099511627776:Int))/\(M.length<=aB->∃(x0:Nat),((N
 = N/\M=M/\(↑M.length:Int)=↑M.length/\(0:Int)=(x0:Int))/\List.replicate (↑M.length:Int).toNat (0:Nat)=bh M.length x0/\[[]]=[]::aA x0
 λ(t:Nat)=>M.getD t []++N.getD t [])/\x0<=M.length/\∀(x:Nat),let u3:=N.getD (x:Int).toNat [];
 let u2:=[]::aA x λ(t:Nat)=>M.getD t []++N.getD t [];let u1:=M.getD (x:Int).toNat [];x<=M.length->bif decide ((x:Int)<↑M.length) then
 (0<=(x:Int)/\(x:Int)<↑M.length)/\rz u1.length none (some (↑u1.length:Int)) (some (↑u1.length:Int))/\(0<=(x:Int)/\(x:Int)
 < (↑N.length:Int))/\((0:Nat)<u3.length/\(aM9 u1 none (some (↑u1.length:Int))).length+u3.length<=aB)/\(0<=(x:Int)/\(x:Int)<↑(bh
 M.length x).length)/\((x:Int).toNat<(bh M.length x).length/\u2.length<(u2++[(aM9 u1 none (some (↑u1.length:Int))).append u3]).length)/\ax ((↑x :
 Int)+(1:Int))/\∃(x':Nat),((N=N/\M=M/\(↑M.length:Int)=↑M.length/\(x:Int)+1=↑x')/\(bh M.length x).set (x:Int).toNat
 (u2.length)=bh M.length x'/\u2++[(aM9 u1 none (some (↑u1.length:Int))).append u3]=[]::aA x' λ(t:Nat)=>M.getD t []++N.getD t [])/\x'<=M.length /\
 M.length-x'<M.length-x else List.map (λ(p:Nat)=>u2.getD p []) (bh M.length x)=ab6 M N)
theorem afR (M N:LM):aw LX4 [] (ago M N) Tryz.f137 (.k (.list (.list .q)) (ab6 M N)) [.k (.list (.list .q)) M,.k (.list (.list .q)) N]=aeg M N:=by kernel_rfl
theorem afS (M N:LM) (hg:M.length<=N.length/\(∀i,i<M.length->0<(N.getD i []).length)/\∀i,i<M.length->(M.getD i []).length+(N.getD i []).length<=aB):aeg M N:=by
 obtain⟨h1,h2,h3⟩:=hg;unfold aeg;intro hL;have Bn:=hL;unfold aB at Bn;refine⟨⟨by omega,by omega,by omega⟩,λ_=>⟨0,⟨⟨rfl,rfl,rfl,rfl⟩,x8 _,rfl⟩,fi _,λi hi=>aH (λh=>?_) λh=>?_⟩⟩
 ·have hi':i<M.length:=by omega
  have e:aM9 (M.getD ((i:Nat):Int).toNat []) none (some (((M.getD ((i:Nat):Int).toNat []).length:Nat):Int))=M.getD i []:=tP;rw[e];refine⟨idx h,⟨by omega,by omega,rfl⟩,⟨by omega,by omega⟩,⟨h2 i hi',h3 i hi'⟩,by rw[pL];exact idx h,⟨by rw[pL];exact hi',by simp⟩,nQ hi' hL,i+1,⟨⟨rfl,rfl,rfl,rfl⟩,?_,?_⟩,by omega,by omega⟩
  ·rw[yY,mX];exact As hi'
  ·exact GI (List.cons []) (tI i λt=>M.getD t []++N.getD t []).symm
 ·have e:i=M.length:=by omega
  subst e;unfold bh ab6;rw[sv];exact bE λt ht=>by rw[aV ht,C5,fW ht]
theorem afT:aqJ (cfg []) afj:=cf afQ bp Tryz.func137 λa _ _ _ hc hg hf=>by change a2L a=_ at hc;unfold a2L at hc;split at hc<;>cases hc;cases aY (afR _ _) (afS _ _ hg);exact⟨rfl,by kernel_rfl,_,by assumption⟩
theorem ac0 {l:List Nat} (inc:∀k k',k<k'->k'<l.length->l.getD k 0<l.getD k' 0) {x c:Nat} (h3:∀k,k<x->l.getD k 0<c) (h4:x<l.length->c<=l.getD x 0):c∈l↔x<l.length/\l.getD x 0=c:=by
 constructor
 ·intro hm;obtain⟨k,hk,e⟩:=ahx hm 0;rcases vv k x with h | h | h
  ·have:=h3 k h;omega
  ·subst h;exact⟨hk,e⟩
  ·have:=inc x k h hk;have:=h4 (by omega);omega
 ·intro⟨h1,h2⟩;rw[<-h2];exact Ao h1 0
theorem aiG {n:Nat} {F:Nat->Nat->Rat} {l:List Nat} {c:Nat} (inc:∀k k',k<k'->k'<l.length->l.getD k 0<l.getD k' 0) (hc:c ∉ l):aA n (acN l (λk=> -F k c) (λt=>if t=c then 1 else 0) l.length)=aA n (acm F l c):=bE λt _=>by
 rw[aiw (λi j hij hj e=>by have:=inc i j hij hj;omega)];unfold acm;by_cases e:t=c
 ·rw[aV e,aI (λh=>hc (by rw[<-e,<-ado h];exact Ao h 0)),aV e]
 ·rw[aI e,aI e]
theorem ahm {l:List Nat} (inc:∀k k',k<k'->k'<l.length->l.getD k 0<l.getD k' 0):∀k,k<l.length->k<=l.getD k 0
 | 0,_=>fi _
 | k+1,h=>by have:=ahm inc k (by omega);have:=inc k (k+1) (by omega) h;omega
theorem ai7 (F:Nat->Nat->Rat) (l:List Nat) (n k:Nat):(abo F l n k).length<=k:=by rw[ahR];unfold acR;exact nc (Lf _ _) (Mp Gp)
def a2M:CF
 | [.agg (.cons (.k (.list (.list .q)) R) (.cons (.k (.list (.int .i64)) L) .nil)),.k (.int .i64) ((n:Nat):Int)]=>some (some (L=K5 (R2 L)/\aeY R (R2 L) n/\n<=aB),.k (.list (.list .q)) (abo (el R) (R2 L) n n),[])
 | _=>none
def afk:az:=⟨139,false,a2M⟩
def agp (R:LM) ( L:List Int) (n:Nat):bk:=⟨nU,λkey_=>match key_ with
 | 4=>some (⟨Nat×Nat,λp=>[(1,.k (.int .i64) ((n:Nat):Int)),(2,.pt 2 0 2 0 0),(5,.own 61 0 1),(6,.k (.int .i64) ((p.2:Nat):Int)),(11,.k (.int .i64) ((n:Nat):Int)),(12,.k (.int .i64) ((p.1:Nat):Int))],
 λp=>[(2,.box 183 (.agg (.cons (.k (.list (.list .q)) R) (.cons (.k (.list (.int .i64)) L) .nil)))),(61,.bc 43 55 .q (aA (abo (el R) (R2 L) n p.1).length λt=>t) (abo (el R) (R2 L) n p.1))],
 λ_ p=>p.1<=n/\p.2<=(R2 L).length/\(∀k,k<p.2->(R2 L).getD k 0<p.1)/\(p.2<(R2 L).length->p.1<=(R2 L).getD p.2 0),λp=>n-p.1⟩)
 | 11=>some (⟨Nat×Nat×Nat,λp=>[(1,.k (.int .i64) ((n:Nat):Int)),(2,.pt 2 0 2 0 0),(5,.own 61 0 1),(6,.k (.int .i64) ((p.2.2:Nat):Int)),(7,.k (.int .i64) ((p.2.1:Nat):Int)),(8,.own 32 0 5),(11,.k (.int .i64) ((n:Nat):Int)),(12,.k (.int .i64) ((p.2.1:Nat):Int)),(38,.k (.list (.int .i64)) L),(39,.k (.int .i64) ((L.length:Nat):Int)),(40,.k (.int .i64) ((p.1:Nat):Int))],
 λp=>[(2,.box 183 (.agg (.cons (.k (.list (.list .q)) R) (.cons (.k (.list (.int .i64)) L) .nil)))),(32,.arr 55 .q (aA n (acN (R2 L) (λk=> -el R k p.2.1) (λt=>if t=p.2.1 then 1 else 0) p.1))),(61,.bc 43 55 .q (aA (abo (el R) (R2 L) n p.2.1).length λt=>t) (abo (el R) (R2 L) n p.2.1))],
 λq p=>p.2=q.2/\p.1<=L.length,λp=>L.length-p.1⟩) | _=>none,nR,nU⟩
def aco (R:LM) ( L:List Int) (n:Nat) (x:Nat×Nat):Prop:=∃(x0:Nat×Nat×Nat),(((n:Int)=↑n/\(↑x.2:Int)=↑x0.2.2/\(↑x.1:Int)=↑x0.2.1/\(n:Int)=↑n/\(↑x.1:Int)=(↑x0.2.1
 : Int)/\L=L/\(↑L.length:Int)=↑L.length/\(0:Int)=(↑x0.1:Int))/\(R=R/\L=L)/\(List.replicate (n:Int).toNat (0:Rat)).set (↑x.1:Int).toNat
 (↑(1:Int):Rat)=aA n (acN (R2 L) (λ(k:Nat)=> -el R k x0.2.1) (λ(t:Nat)=>if t=x0.2.1 then (1:Rat) else (0:Rat)) x0.1)/\((aA (abo (el R) (R2
 L) n x.1).length λ(t:Nat)=>t)=aA (abo (el R) (R2 L) n x0.2.1).length λ(t:Nat)=>t)/\abo (el R) (R2 L) n x.1=abo (el R) (R2 L) n x0.2.1)/\(x0.2 =
 x0.2/\x0.1<=L.length)/\∀(y1:Nat×Nat×Nat),let u3:=(↑y1.2.1:Int);let u2:=aA (abo (el R) (R2 L) n y1.2.1).length λ(t:Nat)=>t;
 let u1:=acN (R2 L) (λ(k:Nat)=> -el R k y1.2.1) (λ(t:Nat)=>if t=y1.2.1 then (1:Rat) else (0:Rat)) y1.1;y1.2=x0.2/\y1.1<=L.length->bif decide
 ((↑y1.1:Int)<↑L.length) then (0<=(↑y1.1:Int)/\(↑y1.1:Int)<↑L.length)/\(0<=(↑y1.1:Int)/\(↑y1.1:Int)<↑R.length)
 /\ ((0:Int)<=u3/\u3<(↑(R.getD (↑y1.1:Int).toNat []).length:Int))/\Sq BQ ((R.getD (↑y1.1:Int).toNat []).getD u3.toNat 0)/\((0:Int)<=L.getD (↑y1.1 :
 Int).toNat 0/\L.getD (↑y1.1:Int).toNat 0<(↑(aA n u1).length:Int))/\(L.getD (↑y1.1:Int).toNat 0).toNat<(aA n u1).length/\ax
 ((↑y1.1:Int)+1)/\∃(x':Nat×Nat×Nat),(((n:Int)=↑n/\(↑y1.2.2:Int)=↑x'.2.2/\u3=(↑x'.2.1:Int)/\(n:Int)=↑n /\
 u3=(↑x'.2.1:Int)/\L=L/\(↑L.length:Int)=↑L.length/\(↑y1.1:Int)+1=↑x'.1)/\(R=R/\L=L)/\(aA n u1).set (L.getD (↑y1.1 :
 Int).toNat 0).toNat (-(R.getD (↑y1.1:Int).toNat []).getD u3.toNat 0)=aA n (acN (R2 L) (λ(k:Nat)=> -el R k x'.2.1) (λ(t:Nat)=>if t =
 x'.2.1 then (1:Rat) else (0:Rat)) x'.1)/\(u2=aA (abo (el R) (R2 L) n x'.2.1).length λ(t:Nat)=>t)/\abo (el R) (R2 L) n y1.2.1=abo (el R) (R2 L) n
 x'.2.1)/\(x'.2=x0.2/\x'.1<=L.length)/\L.length-x'.1<L.length-y1.1 else (u2.length+1<=aB/\((abo (el R) (R2 L) n y1.2.1).length)<(abo (el R)
 (R2 L) n y1.2.1++[aA n u1]).length)/\ax (u3+(1:Int))/\∃(x':Nat×Nat),(((n:Int)=↑n/\(↑y1.2.2:Int)=↑x'.2/\(n:Int)=(↑n :
 Int)/\u3+(1:Int)=(↑x'.1:Int))/\(R=R/\L=L)/\(u2++[((abo (el R) (R2 L) n y1.2.1).length)]=aA (abo (el R) (R2 L) n x'.1).length λ(t:Nat)=>t)
 /\ abo (el R) (R2 L) n y1.2.1++[aA n u1]=abo (el R) (R2 L) n x'.1)/\(x'.1<=n/\x'.2<=(R2 L).length/\(∀(k:Nat),k<x'.2->(R2 L).getD k 0<x'.1)
 /\ (x'.2<(R2 L).length->x'.1<=(R2 L).getD x'.2 0))/\n-x'.1<n-x.1
def aei (R:LM) ( L:List Int) (n:Nat):Prop:=
 let t1:=List.replicate (n:Int).toNat (0:Rat);
 ∃(x0:Nat×Nat),(((n:Int)=↑n/\(0:Int)=(↑x0.2:Int)/\(n:Int)=↑n/\(0:Int)=(↑x0.1:Int))/\(R=R/\L=L)/\(aA (abo (el R)
 (R2 L) n x0.1).length λ(t:Nat)=>t)=[]/\abo (el R) (R2 L) n x0.1=[])/\(x0.1<=n/\x0.2<=(R2 L).length/\(∀(k:Nat),k<x0.2->(R2 L).getD k 0
 < x0.1)/\(x0.2<(R2 L).length->x0.1<=(R2 L).getD x0.2 0))/\∀(x:Nat×Nat),x.1<=n/\x.2<=(R2 L).length/\(∀(k:Nat),k<x.2->(R2 L).getD k (0 :
 Nat)<x.1)/\(x.2<(R2 L).length->x.1<=(R2 L).getD x.2 0)->bif decide ((↑x.1:Int)<↑n) then L.length<=(9223372036854775807:Nat)->bif decide
 ((↑x.2:Int)<↑L.length) then (0<=(↑x.2:Int)/\(↑x.2:Int)<↑L.length)/\bif decide (L.getD (↑x.2:Int).toNat 0=(↑x.1:Int))
 then ax ((↑x.2:Int)+1)/\ax ((↑x.1:Int)+1)/\∃(x':Nat×Nat),(((n:Int)=↑n/\(↑x.2:Int)+1=↑x'.2/\(↑n :
 Int)=(n:Int)/\(↑x.1:Int)+1=↑x'.1)/\(R=R/\L=L)/\((aA (abo (el R) (R2 L) n x.1).length λ(t:Nat)=>t)=aA (abo (el R) (R2 L)
 n x'.1).length λ(t:Nat)=>t)/\abo (el R) (R2 L) n x.1=abo (el R) (R2 L) n x'.1)/\(x'.1<=n/\x'.2<=(R2 L).length/\(∀(k:Nat),k<x'.2->(R2 L).getD k
 (0:Nat)<x'.1)/\(x'.2<(R2 L).length->x'.1<=(R2 L).getD x'.2 0))/\n-x'.1<n-x.1 else (0<=(n:Int)/\(n:Int)<=(n:Int)/\(n:Int)
 <= (1099511627776:Int))/\ax (1:Int)/\(0<=(↑x.1:Int)/\(↑x.1:Int)<↑t1.length)/\(↑x.1:Int).toNat<t1.length/\(L.length <=
 (9223372036854775807:Nat)->aco R L n x) else (0<=(n:Int)/\(n:Int)<=(n:Int)/\(n:Int)<=(1099511627776:Int))/\ax (1:Int)/\((0 :
 Int)<=(↑x.1:Int)/\(↑x.1:Int)<↑t1.length)/\(↑x.1:Int).toNat<t1.length/\(L.length<=(9223372036854775807:Nat)->aco R L n x) else List.map
 (λ(p:Nat)=>(abo (el R) (R2 L) n x.1).getD p []) (aA (abo (el R) (R2 L) n x.1).length λ(t:Nat)=>t)=abo (el R) (R2 L) n n
theorem afU (R:LM) ( L:List Int) (n:Nat):aw LX4 [] (agp R L n) Tryz.f139 (.k (.list (.list .q)) (abo (el R) (R2 L) n n)) [.agg (.cons (.k (.list (.list .q)) R) (.cons (.k (.list (.int .i64)) L) .nil)),.k (.int .i64) ((n:Nat):Int)]=aei R L n:=by kernel_rfl
theorem afW (R:LM) ( L:List Int) (n:Nat) (hg:L=K5 (R2 L)/\aeY R (R2 L) n/\n<=aB):aei R L n:=by
 obtain⟨eL,hK,hn⟩:=hg;generalize hl:R2 L=l at *
 subst eL;have eC:(K5 l).length=l.length:=adq l;have hn':=hn;unfold aB at hn';have inc:=hK.inc;have body:∀c x,c<n->c ∉ l->x<=l.length->(∀k,k<x->l.getD k 0<c)->(x<l.length->c<=l.getD x 0)->aco R (K5 l) n (c,x):=λc x hc hm h2 h3 h4=>by
  unfold aco;rw[hl];refine⟨(0,c,x),⟨⟨rfl,rfl,rfl,rfl,rfl,rfl,rfl,rfl⟩,⟨rfl,rfl⟩,?_,rfl,rfl⟩,⟨rfl,fi _⟩,λ⟨i,c2,x2⟩ ⟨e,hi⟩=>?_⟩
  ·show(List.replicate n (0:Rat)).set c 1=aA n λt=>if t=c then 1 else 0
   rw[iO,mY hc]
  ·obtain⟨rfl,rfl⟩:c2=c/\x2=x:=⟨GI Prod.fst e,GI Prod.snd e⟩
   dsimp only at hi ⊢;rw[eC] at hi ⊢;refine aH (λh=>?_) λh=>?_
   ·have hi':i<l.length:=by omega
    have hr:=hK.row i hi';have aU:=hK.lt i hi';have hle:=hK.len;have e1:=afF hi';have e3:((K5 l).getD i 0).toNat=l.getD i 0:=by omega
    have iU:=ahm inc i hi';refine⟨idx h,⟨by omega,by omega⟩,⟨by omega,by show(c2:Int)<(((R.getD i []).length:Nat):Int);omega⟩,hK.sm i c2,⟨by show(0:Int)<=(K5 l).getD i 0;omega,by rw[mX];show(K5 l).getD i 0<(n:Int);omega⟩,by rw[mX];show((K5 l).getD i 0).toNat<n;omega,by unfold ax;omega,(i+1,c2,x2),⟨⟨rfl,rfl,rfl,rfl,rfl,rfl,rfl,rfl⟩,⟨rfl,rfl⟩,?_,rfl,rfl⟩,⟨rfl,hi'⟩,by show _-(i+1)<_-i;omega⟩;show(aA n _).set ((K5 l).getD i 0).toNat _=_;rw[e3];exact mY aU
   ·have e:i=l.length:=by omega
    subst e;have hk:=ai7 (el R) l n c2;have eK:abo (el R) l n (c2+1)=abo (el R) l n c2++[aA n (acm (el R) l c2)]:=by rw[aeS,aI hm]
    rw[aiG inc hm];refine⟨⟨by rw[mX];unfold aB;omega,by simp⟩,by unfold ax;omega,(c2+1,x2),⟨⟨rfl,rfl,rfl,rfl⟩,⟨rfl,rfl⟩,?_,eK.symm⟩,⟨hc,h2,λk hk=>by have:=h3 k hk;omega,λh=>?_⟩,by show _-(c2+1)<_-c2;omega⟩
    ·show _=aA (abo (el R) l n (c2+1)).length λt=>t;rw[eK,fK];exact(tI _ λt=>t).symm
    ·have h5:=h4 h;have h6:l.getD x2 0≠c2:=λe=>hm ((ac0 inc h3 h4).2 ⟨h,e⟩);show c2+1<=l.getD x2 0;omega
 unfold aei;dsimp only;rw[hl,eC];refine⟨(0,0),⟨⟨rfl,rfl,rfl,rfl⟩,⟨rfl,rfl⟩,rfl,rfl⟩,⟨fi _,fi _,λk hk=>absurd hk (ia k),λ_=>fi _⟩,λ⟨c,x⟩ ⟨h1,h2,h3,h4⟩=>?_⟩;dsimp only at h1 h2 h3 h4 ⊢;have main:c<n->c ∉ l->((0:Int)<=(n:Int)/\(n:Int)<=(n:Int)/\(n:Int)<=1099511627776)/\ax 1/\((0:Int)<=(c:Int)/\(c:Int)<((List.replicate ((n:Nat):Int).toNat (0:Rat)).length:Nat))/\((c:Nat):Int).toNat<(List.replicate ((n:Nat):Int).toNat (0:Rat)).length/\(l.length<=9223372036854775807->aco R (K5 l) n (c,x)):=λhc hm=>⟨⟨by omega,by omega,by omega⟩,by unfold ax;omega,by rw[ux];exact⟨by omega,by show(c:Int)<((n:Nat):Int);omega⟩,by rw[ux];exact hc,λ_=>body c x hc hm h2 h3 h4⟩
 refine aH (λh hLL=>?_) λh=>?_
 ·have hc:c<n:=by omega
  refine aH (λh5=>⟨idx h5,?_⟩) λh5=>main hc λhm=>h5 (by have:=((ac0 inc h3 h4).1 hm).1;omega);have hx:x<l.length:=by omega
  have e1:=afF hx;refine aH (λh6=>?_) λh6=>main hc λhm=>h6 (by have:=((ac0 inc h3 h4).1 hm).2;show(K5 l).getD x 0=(c:Int);omega);have h6:l.getD x 0=c:=by have h6:(K5 l).getD x 0=(c:Int):=h6;omega
  have hm:c∈l:=(ac0 inc h3 h4).2 ⟨hx,h6⟩;have eK:abo (el R) l n (c+1)=abo (el R) l n c:=by rw[aeS,aV hm]
  refine⟨by unfold ax;omega,by unfold ax;omega,(c+1,x+1),⟨⟨rfl,rfl,rfl,rfl⟩,⟨rfl,rfl⟩,by show _=aA (abo (el R) l n (c+1)).length _;rw[eK],eK.symm⟩,⟨hc,hx,λk hk=>?_,λh7=>?_⟩,by show _-(c+1)<_-c;omega⟩
  ·rcases cM k x with h8 | h8
   ·have:=h3 k h8;show _<c+1;omega
   ·have:k=x:=by have:k<x+1:=hk;omega
    subst this;show _<c+1;omega
  ·have:=inc x (x+1) (tS x) h7;show c+1<=l.getD (x+1) 0;omega
 ·have e:c=n:=by omega
  subst e;rw[sv];exact(vt [] rfl λi _=>rfl).symm
theorem afX:aqJ (cfg []) afk:=cf afQ bp Tryz.func139 λa _ _ _ hc hg hf=>by change a2M a=_ at hc;unfold a2M at hc;split at hc<;>cases hc;cases aY (afU _ _ _) (afW _ _ _ hg);exact⟨rfl,by kernel_rfl,_,by assumption⟩
def aeE (M:LM):LM:=abo (ab2 M).1 (ab2 M).2 (abY M) (abY M)
theorem ai8 {M:LM} (hg:acu M):aeY (aaf M) (ab2 M).2 (abY M):=by have h:=aca M.length (el M) (abY M);obtain⟨s,h1,h2,h3⟩:=hg;refine⟨h.inc,h.lt,by unfold aaf;rw[mkM_len];exact bF _,λk hk=>?_,SM.mk (λi j _ _=>(afy h1 (λi j=>h2.el i j) (abY M) i j).le h3) BQ1⟩;unfold aaf;rw[na hk,mX];exact bF _
theorem agq {A:LM} {n c:Nat} {F:Nat->Nat->Rat} (hn:A.length=n) (hc:abY A=c) (h:∀i j,i<n->j<c->el A i j=F i j):(ab2 A).2=(rr n F c).2/\∀i j,i<n->j<c->(ab2 A).1 i j=(rr n F c).1 i j:=by unfold ab2;rw[hn,hc];exact aed h c (bF c)
theorem afl {b:Bool} {α:Type} {x y:α} (h:b=true):cond b x y=x:=by rw[h];rfl
noncomputable def LX5:List az:=aeb::afk::ala::afj::ya::LX4
theorem ahn:bd LX5:=⟨ads,afX,alk,afT,uz,afQ⟩
def aah (M:LM) (b:List Rat):LM:=ab6 M (abJ b)
def okS (M:LM) (b:List Rat):Bool:=bif as3 M then decide (M.length=b.length) else false
def abL (M:LM) (b:List Rat):Bool:=ajj M.length (aps M) (el M) (λi=>b.getD i 0)
def aer (M:LM) (b:List Rat):List Rat:=aA (aps M) (ak8 M.length (aps M) (el M) (λi=>b.getD i 0))
def aj4 (M:LM) (b:List Rat):Prop:=∃s,1<=s/\SM s M/\SL s b/\s*5^(aps M+1)<=BQ
def acU (M:LM) (b:List Rat):List Rat:=bif okS M b then bif abL M b then aer M b else [] else []
def adl (M:LM) (b:List Rat):LM:=bif okS M b then bif abL M b then aeE M else [] else []
def acV (M:LM) (b:List Rat):Int:=bif okS M b then bif abL M b then 0 else 7 else 5
theorem akS {M:LM} {b:List Rat} (hl:M.length=b.length) {i:Nat} (hi:i<M.length):(aah M b).getD i []=M.getD i []++[b.getD i 0]:=by unfold aah ab6 abJ;rw[fW hi,fW (by omega)]
structure ap5 (M:LM) (b:List Rat):Prop where
 len:(aah M b).length=M.length
 abY:abY (aah M b)=aps M+1
 right:as3 (aah M b)=true
 el:∀i j,i<M.length->j<aps M+1->AM.el (aah M b) i j=abD (aps M) (AM.el M) (λi=>b.getD i 0) i j
theorem ajQ {M:LM} {b:List Rat} (hR:as3 M=true) (hl:M.length=b.length):ap5 M b:=by
 obtain⟨m1,m2,m3⟩:=ba hR;have e0:(aah M b).length=M.length:=mX ..;have er:∀i,i<M.length->((aah M b).getD i []).length=aps M+1:=λi hi=>by rw[akS hl hi,fK,m3 i hi];rfl
 refine⟨e0,er 0 m1,nM (by omega) (by rw[er 0 m1];omega) λj hj=>by rw[er j (by omega),er 0 m1],λi j hi hj=>?_⟩;show((aah M b).getD i []).getD j 0=_;rw[akS hl hi];unfold abD;by_cases h:j<aps M
 ·rw[aV h,xT (by rw[m3 i hi];exact h)];rfl
 ·rw[aI h,xU (by rw[m3 i hi];omega),m3 i hi,show j-aps M=0 by omega];rfl
theorem akG {M:LM} {b:List Rat} {s:Nat} (hl:M.length=b.length) (h1:1<=s) (h2:SM s M) (h3:SL s b):SM s (aah M b):=λi j=>by
 rcases cM i M.length with hi | hi
 ·rw[akS hl hi];rcases cM j (M.getD i []).length with hj | hj
  ·rw[xT hj];exact h2 i j
  ·rw[xU hj]
   cases j-(M.getD i []).length with
   | zero=>exact h3 i
   | succ k=>exact Sq.zero s h1
 ·have e:(aah M b).getD i []=[]:=mZ (by unfold aah ab6;rw[mX];exact hi) [];rw[e];exact Sq.zero s h1
theorem adu {s m:Nat} (h1:1<=s) (h:s*5^m<=BQ):m<=20000000000:=by have h4:=Nat.lt_pow_self (n:=m) (a:=5) (by omega);have h5:1*5^m<=s*5^m:=fh _ h1;unfold BQ at h;omega
theorem alV (n m:Nat) (A:Nat->Nat->Rat) (b:Nat->Rat):(0<(rr n (abD m A b) (m+1)).2.length/\(rr n (abD m A b) (m+1)).2.getD ((rr n (abD m A b) (m+1)).2.length-1) 0=m)↔ajj n m A b=false:=by
 constructor
 ·intro⟨h1,h2⟩
  cases h:ajj n m A b with
  | false=>rfl
  | true=>have:=adn.1 h _ (Ao (xs:=(rr n (abD m A b) (m+1)).2) (i:=(rr n (abD m A b) (m+1)).2.length-1) (by omega) 0);omega
 ·intro h;rw[alD h,fK,xU (by simp)];exact⟨by simp,by simp⟩
theorem alb {M:LM} {b:List Rat} (h:okS M b=false):acU M b=[]/\adl M b=[]/\5=acV M b:=by unfold acU adl acV;rw[h];exact⟨rfl,rfl,rfl⟩
theorem ajT {M:LM} {b:List Rat} (h:okS M b=true) (h2:abL M b=false):acU M b=[]/\adl M b=[]/\7=acV M b:=by unfold acU adl acV;rw[h,h2];exact⟨rfl,rfl,rfl⟩
theorem akT {M:LM} {b:List Rat} (h:okS M b=true) (h2:abL M b=true):acU M b=aer M b/\adl M b=aeE M/\acV M b=0:=by unfold acU adl acV;rw[h,h2];exact⟨rfl,rfl,rfl⟩
def a3F:CF
 | [.k (.list (.list .q)) M,.k (.list .q) b]=>some (some (okS M b=true->aj4 M b),T3 (.k (.list .q) (acU M b)) (.k (.list (.list .q)) (adl M b)) (.k (.int .i64) (acV M b)),[])
 | _=>none
def alF:az:=⟨120,false,a3F⟩
def alW (M:LM) (b:List Rat):bk:=⟨nU,λkey_=>match key_ with
 | 10=>some (⟨Nat,λi=>[(4,.own 51 0 5),(7,.k (.int .i64) ((aps M:Nat):Int)),(8,.pt 8 0 2 0 0),(53,.k (.list (.int .i64)) (abp (aah M b))),(54,.k (.int .i64) (((abp (aah M b)).length:Nat):Int)),(55,.k (.int .i64) ((i:Nat):Int))],
 λi=>[(8,.box 183 (.agg (.cons (.k (.list (.list .q)) (aaf (aah M b))) (.cons (.k (.list (.int .i64)) (abp (aah M b))) .nil)))),(51,.arr 55 .q (aA (aps M) (acN (ab2 (aah M b)).2 (λk=>(ab2 (aah M b)).1 k (aps M)) (λ_=>0) i)))],λ_ i=>i<=(ab2 (aah M b)).2.length,λi=>(ab2 (aah M b)).2.length-i⟩) | _=>none,nR,nU⟩
def ajz (M:LM) (b:List Rat) : Prop:=
 let t1:=abp (aah M b);
 let t2:=ab2 (aah M b);
 let t3:=ab6 M (abJ b);
 ∃(x0:Nat),(((↑(M.getD (Int.toNat (0:Int)) []).length:Int)=(↑(aps M):Int)/\(bif as3 t3 then abp t3 else [])=abp (aah M b)/\(↑(bif as3 t3
 then abp t3 else []).length:Int)=(↑t1.length:Int)/\(0:Int)=(x0:Int))/\(bz (as3 t3) (aaf t3)=aaf (aah M b)/\(bif as3 t3 then abp
 t3 else [])=abp (aah M b))/\List.replicate (↑(M.getD (Int.toNat (0:Int)) []).length:Int).toNat (0:Rat)=aA (aps M) (acN t2.snd (λ(k:Nat)=>t2.fst
 k (aps M)) (λ(x:Nat)=>(0:Rat)) x0))/\x0<=t2.snd.length/\∀(x:Nat),
 let u1:=acN t2.snd (λ(k:Nat)=>t2.fst k (aps M)) (λ(x:Nat)=>(0:Rat)) x;x<=t2.snd.length->bif decide ((x:Int)<↑t1.length) then ((0 :
 Int)<=(x:Int)/\(x:Int)<↑t1.length)/\(0<=(x:Int)/\(x:Int)<↑(aaf (aah M b)).length)/\(0<=(↑(aps M):Int) /\
 (↑(aps M):Int)<(↑((aaf (aah M b)).getD (x:Int).toNat []).length:Int))/\((0:Int)<=t1.getD (x:Int).toNat 0/\t1.getD (x:Int).toNat (0 :
 Int)<(↑(aA (aps M) u1).length:Int))/\(t1.getD (x:Int).toNat 0).toNat<(aA (aps M) u1).length/\ax ((x:Int)+1)/\∃(x':Nat),
 (((↑(aps M):Int)=(↑(aps M):Int)/\abp (aah M b)=abp (aah M b)/\(↑t1.length:Int)=↑t1.length/\(x:Int)+1=↑x') /\
 (aaf (aah M b)=aaf (aah M b)/\abp (aah M b)=abp (aah M b))/\(aA (aps M) u1).set (t1.getD (x:Int).toNat 0).toNat (((aaf (aah M
 b)).getD (x:Int).toNat []).getD (↑(aps M):Int).toNat 0)=aA (aps M) (acN t2.snd (λ(k:Nat)=>t2.fst k (aps M)) (λ(x:Nat)=>(0:Rat))
 x'))/\x'<=t2.snd.length/\t2.snd.length-x'<t2.snd.length-x else (abp (aah M b)=K5 (R2 t1)/\aeY (aaf (aah M b)) (R2 t1) (aps M)/\aps M <=
 aB)/\aA (aps M) u1=acU M b/\abo (el (aaf (aah M b))) (R2 t1) (aps M) (aps M)=adl M b/\(0:Int)=acV M b
def akU (M:LM) (b:List Rat):Prop:=
 let t1:=(↑(M.getD (Int.toNat (0:Int)) []).length:Int);
 let t2:=ab6 M (abJ b);
 bif !as3 M then acU M b=[]/\adl M b=[]/\(5:Int)=acV M b else M.length<=aB->b.length<=aB->bif !decide ((↑M.length:Int)=↑b.length)
 then acU M b=[]/\adl M b=[]/\(5:Int)=acV M b else ((0:Int)<=(0:Int)/\(0:Int)<(↑M.length:Int))/\((M.getD (Int.toNat (0:Int)) []).length <=
 aB->(M.length<=(abJ b).length/\(∀(i:Nat),i<M.length->(0:Nat)<((abJ b).getD i []).length)/\∀(i:Nat),i<M.length->(M.getD i []).length+((abJ
 b).getD i []).length<=aB)/\(as3 t2=true->acu t2)/\((bif as3 t2 then abp t2 else []).length<=(9223372036854775807:Nat)->bif decide ((0:Int) <
 (↑(bif as3 t2 then abp t2 else []).length:Int)) then ax ((↑(bif as3 t2 then abp t2 else []).length:Int)-(1:Int))/\(0<=(↑(bif as3 t2
 then abp t2 else []).length:Int)-(1:Int)/\(↑(bif as3 t2 then abp t2 else []).length:Int)-(1:Int)<(↑(bif as3 t2 then abp t2 else
 []).length:Int))/\bif decide ((bif as3 t2 then abp t2 else []).getD ((↑(bif as3 t2 then abp t2 else []).length:Int)-(1:Int)).toNat 0=t1)
 then acU M b=[]/\adl M b=[]/\(7:Int)=acV M b else ((0:Int)<=t1/\t1<=t1/\t1<=(1099511627776:Int))/\((bif as3 t2 then abp t2 else
 []).length<=(9223372036854775807:Nat)->ajz M b) else ((0:Int)<=t1/\t1<=t1/\t1<=(1099511627776:Int))/\((bif as3 t2 then abp t2 else []).length <=
 (9223372036854775807:Nat)->ajz M b)))
theorem alG (M:LM) (b:List Rat):aw LX5 [] (alW M b) Tryz.f120 (T3 (.k (.list .q) (acU M b)) (.k (.list (.list .q)) (adl M b)) (.k (.int .i64) (acV M b))) [.k (.list (.list .q)) M,.k (.list .q) b]=akU M b:=by kernel_rfl
theorem alH (M:LM) (b:List Rat) (hg:okS M b=true->aj4 M b):akU M b:=by
 unfold akU;dsimp only
 cases hR:as3 M with
 | false=>exact alb (by unfold okS;rw[hR];rfl)
 | true=>
  intro hL1 n5;refine dP (λh=>alb (by unfold okS;rw[hR,eJ (by omega)];rfl)) λh=>?_;have hl:M.length=b.length:=by omega
  have ok:okS M b=true:=by unfold okS;rw[hR,kx hl];rfl
  obtain⟨s,s1,s2,s3,s4⟩:=hg ok;have hA:=ajQ hR hl;obtain⟨m1,m2,m3⟩:=ba hR;have uI:acu (aah M b):=⟨s,s1,akG hl s1 s2 s3,by have:=hA.abY;show s*5^abY (aah M b)<=BQ;rw[this];exact s4⟩
  have hmL:=adu s1 s4;have E1:(bif as3 (ab6 M (abJ b)) then abp (ab6 M (abJ b)) else [])=abp (aah M b):=afl hA.right;have E2:bz (as3 (ab6 M (abJ b))) (aaf (ab6 M (abJ b)))=aaf (aah M b):=afl hA.right;have hK:=ai8 uI;obtain⟨r1,r2⟩:=agq hA.len hA.abY hA.el;have hln:=hK.len;have yS:(ab2 (aah M b)).2.length<=M.length:=by rw[r1];exact acG _ _ _
  have key:=alV M.length (aps M) (el M) (λi=>b.getD i 0);rw[<-r1] at key;have eO:(abp (aah M b)).length=(ab2 (aah M b)).2.length:=adq _;have eT:R2 (abp (aah M b))=(ab2 (aah M b)).2:=ai4 _;have uN:(ab2 (aah M b)).2.length<=20000000000:=by
   rcases iS (ab2 (aah M b)).2.length with h0 | h0
   ·omega
   ·have:=ahm hK.inc _ (show(ab2 (aah M b)).2.length-1<(ab2 (aah M b)).2.length by omega);have h5:=hK.lt _ (show(ab2 (aah M b)).2.length-1<(ab2 (aah M b)).2.length by omega);rw[hA.abY] at h5;omega
  have body:abL M b=true->ajz M b:=λhS=>by
   have aU:∀k,k<(ab2 (aah M b)).2.length->(ab2 (aah M b)).2.getD k 0<aps M:=λk hk=>by have h6:=adn.1 hS;rw[<-r1] at h6;exact h6 _ (Ao hk 0)
   obtain⟨v1,v2⟩:=akR hS;obtain⟨x1,x2,x3⟩:=akT ok hS;unfold ajz;dsimp only;rw[E1,E2,eO];refine⟨0,⟨⟨rfl,rfl,rfl,rfl⟩,⟨rfl,rfl⟩,iO _ _⟩,fi _,λi hi=>aH (λh=>?_) λh=>?_⟩
   ·have hi':i<(ab2 (aah M b)).2.length:=by omega
    have e1:(abp (aah M b)).getD i 0=_:=afF hi';have e3:((abp (aah M b)).getD i 0).toNat=(ab2 (aah M b)).2.getD i 0:=by omega
    have h7:=aU i hi';have h8:=ahm hK.inc i hi';have h9:=hK.row i hi';rw[hA.abY] at h9;refine⟨idx h,⟨by omega,by omega⟩,⟨by omega,by show(aps M:Int)<((((aaf (aah M b)).getD i []).length:Nat):Int);omega⟩,⟨by show(0:Int)<=(abp (aah M b)).getD i 0;omega,by rw[mX];show(abp (aah M b)).getD i 0<(aps M:Int);omega⟩,by rw[mX];show((abp (aah M b)).getD i 0).toNat<aps M;omega,by unfold ax;omega,i+1,⟨⟨rfl,rfl,rfl,rfl⟩,⟨rfl,rfl⟩,?_⟩,hi',by omega⟩;show(aA (aps M) _).set ((abp (aah M b)).getD i 0).toNat (el (aaf (aah M b)) i (aps M))=_;rw[e3,show el (aaf (aah M b)) i (aps M)=(ab2 (aah M b)).1 i (aps M) from Ny hi' (by rw[hA.abY];omega)];exact mY h7
   ·have e:i=(ab2 (aah M b)).2.length:=by omega
    subst e;rw[eT,x1,x2,x3];refine⟨⟨rfl,⟨hK.inc,aU,hK.len,λk hk=>by have:=hK.row k hk;rw[hA.abY] at this;omega,hK.sm⟩,by unfold aB;omega⟩,bE λt ht=>?_,?_,rfl⟩
    ·rw[aiw (λi j hij hj e=>by have:=hK.inc i j hij hj;omega)];unfold ak8 akD;rw[<-r1];by_cases h:(ab2 (aah M b)).2.idxOf t<(ab2 (aah M b)).2.length
     ·rw[aV h,aV h,r2 _ _ (by omega) (by omega)]
     ·rw[aI h,aI h]
    ·unfold aeE;rw[show(ab2 M).2=(ab2 (aah M b)).2 from (r1.trans v1).symm];exact agn λi j hi hj=>by show el (aaf (aah M b)) i j=(rr M.length (el M) (aps M)).1 i j;rw[show el (aaf (aah M b)) i j=(ab2 (aah M b)).1 i j from Ny hi (by rw[hA.abY];have:j<aps M:=hj;omega),r2 _ _ (by omega) (by have:j<aps M:=hj;omega),v2 _ _ (by omega) hj]
  rw[E1];refine⟨⟨by omega,by omega⟩,λhLc=>⟨⟨by unfold abJ;rw[mX];omega,λi hi=>by unfold abJ;rw[fW (by omega)];exact Nat.one_pos,λi hi=>by unfold abJ;rw[fW (by omega),m3 i hi];show aps M+1<=aB;unfold aB;omega⟩,λ_=>uI,λhLL=>?_⟩⟩;have amF:abL M b=true->((0:Int)<=(((M.getD (Int.toNat 0) []).length:Nat):Int)/\(((M.getD (Int.toNat 0) []).length:Nat):Int)<=(((M.getD (Int.toNat 0) []).length:Nat):Int)/\(((M.getD (Int.toNat 0) []).length:Nat):Int)<=1099511627776)/\((abp (aah M b)).length<=9223372036854775807->ajz M b):=λhS=>⟨⟨by omega,by omega,by show((aps M:Nat):Int)<=_;omega⟩,λ_=>body hS⟩
  have yes:¬(0<(ab2 (aah M b)).2.length/\(ab2 (aah M b)).2.getD ((ab2 (aah M b)).2.length-1) 0=aps M)->abL M b=true:=λh=>by
   cases h2:abL M b with
   | true=>rfl
   | false=>exact absurd (key.2 h2) h
  refine aH (λh1=>?_) λh1=>amF (yes λh2=>h1 (by omega));have hp:0<(ab2 (aah M b)).2.length:=by omega
  have e1:(abp (aah M b)).getD ((ab2 (aah M b)).2.length-1) 0=_:=afF (show(ab2 (aah M b)).2.length-1<_ by omega);have e2:(((abp (aah M b)).length:Nat)-1:Int).toNat=(ab2 (aah M b)).2.length-1:=by omega
  rw[e2];refine⟨by unfold ax;omega,⟨by omega,by omega⟩,aH (λh3=>?_) λh3=>amF (yes λh2=>h3 ?_)⟩
  ·refine ajT ok (key.1 ⟨hp,?_⟩);have h3:(abp (aah M b)).getD ((ab2 (aah M b)).2.length-1) 0=((aps M:Nat):Int):=h3;omega
  ·show(abp (aah M b)).getD ((ab2 (aah M b)).2.length-1) 0=((aps M:Nat):Int)
   omega
theorem akE:aqJ (cfg []) alF:=cf ahn bp Tryz.func120 λa _ _ _ hc hg hf=>by change a3F a=_ at hc;unfold a3F at hc;split at hc<;>cases hc;cases aY (alG _ _) (alH _ _ hg);exact⟨rfl,by kernel_rfl,_,by assumption⟩
end Go.Proofs.YtlijkeolpmgioaaGreatDoor.AM
namespace Go.Proofs.YtlijkeolpmgioaaGreatDoor.AM
open Go.RowKit
def vMg (M:List (List Rat)) (is:List Bool) (i j:Nat):Rat:=if ub is i=true then el M i j else -(el M i j)
def ptS (M:List (List Rat)) (is:List Bool) (b:List Rat) (t:Bool) (m j:Nat):Rat:=apV (λi=>if ub is i=t then el M i j*cw b i else 0) m
def ptL (M:List (List Rat)) (is:List Bool) (b:List Rat) (t:Bool):List Rat:=aA (aps M) (ptS M is b t M.length)
def wyL (M:List (List Rat)) (is:List Bool) (b:List Rat):List Rat:=aA (aps M) λj=>ptS M is b true M.length j-ptS M is b false M.length j
variable {M:List (List Rat)} {is:List Bool} {b:List Rat}
theorem aPh {t:Bool} {m:Nat} (h:ub is m=t) (j:Nat):ptS M is b t (m+1) j=ptS M is b t m j+el M m j*cw b m:=by show ptS M is b t m j+(if ub is m=t then _ else _)=_;rw[aV h]
theorem aSf {t:Bool} {m:Nat} (h:ub is m≠t) (j:Nat):ptS M is b t (m+1) j=ptS M is b t m j:=by show ptS M is b t m j+(if ub is m=t then _ else _)=_;rw[aI h,Rat.add_zero]
theorem a06 (M:List (List Rat)) (is:List Bool) (b:List Rat) (j:Nat):ptS M is b true M.length j-ptS M is b false M.length j=dMg M.length (vMg M is) (cw b) j:=by
 have e:dMg M.length (vMg M is) (cw b) j=ptS M is b true M.length j+(-1)*ptS M is b false M.length j:=by
  unfold dMg ptS;rw[<-abC,<-acw];refine uv λi _=>?_
  unfold vMg
  cases h:ub is i with
  | true=>rw[aV rfl,aV rfl,aI (by decide)];grind
  | false=>rw[aI (by decide),aI (by decide),aV rfl];grind
 rw[e];grind
theorem aWw (M:List (List Rat)) (is:List Bool) (b ys:List Rat):dW (wyL M is b) ys=apV (λj=>dMg M.length (vMg M is) (cw b) j*ys.getD j 0) (aps M):=by unfold dW wyL;rw[mX];exact uv λj hj=>by rw[fW hj,a06]
theorem aUQ (M:List (List Rat)) (is:List Bool) (b:List Rat) (i:Nat):dW (wyL M is b) (M.getD i [])=if ub is i=true then gMg M.length (aps M) (vMg M is) (cw b) i else -gMg M.length (aps M) (vMg M is) (cw b) i:=by
 rw[aWw];unfold gMg ipW vMg
 cases h:ub is i with
 | true=>rw[aV rfl];exact uv λj _=>by rw[aV rfl,CT];rfl
 | false=>
  rw[aI (by decide)];have e : -(apV (λj=>(if false=true then el M i j else -(el M i j))*dMg M.length (λi j=>if ub is i=true then el M i j else -(el M i j)) (cw b) j) (aps M))=(-1)*apV (λj=>(if false=true then el M i j else -(el M i j))*dMg M.length (λi j=>if ub is i=true then el M i j else -(el M i j)) (cw b) j) (aps M):=by grind
  rw[e,<-abC];refine uv λj _=>?_;rw[aI (by decide)];show dMg M.length (vMg M is) (cw b) j*el M i j = -1*(-(el M i j)*dMg M.length (vMg M is) (cw b) j)
  grind
theorem aZp (M:List (List Rat)) (is:List Bool) (b:List Rat) (t:Bool):dW (wyL M is b) (ptL M is b t)=apV (λi=>if ub is i=t then cw b i*dW (wyL M is b) (M.getD i []) else 0) M.length:=by
 rw[aWw];have e1:apV (λj=>dMg M.length (vMg M is) (cw b) j*(ptL M is b t).getD j 0) (aps M)=apV (λj=>dMg M.length (vMg M is) (cw b) j*apV (λi=>el M i j*(if ub is i=t then cw b i else 0)) M.length) (aps M):=uv λj hj=>by
  unfold ptL;rw[fW hj];congr 1;exact uv λi _=>by
   by_cases h:ub is i=t
   ·rw[aV h,aV h]
   ·rw[aI h,aI h,Lg]
 rw[e1,<-aqT (el M) (λi=>if ub is i=t then cw b i else 0) (dMg M.length (vMg M is) (cw b)) M.length (aps M)];refine uv λi _=>?_;by_cases h:ub is i=t
 ·rw[aV h,aV h,aWw];congr 1;exact uv λj _=>CT _ _
 ·rw[aI h,aI h,Az]
theorem aXh (M:List (List Rat)) (is:List Bool) (b:List Rat) (t:Bool):dW (wyL M is b) (ptL M is b t)=if t=true then hiW M.length (aps M) (vMg M is) (ub is) (cw b) true else -hiW M.length (aps M) (vMg M is) (ub is) (cw b) false:=by
 rw[aZp];unfold hiW
 cases t with
 | true=>
  rw[aV rfl];refine uv λi _=>?_;by_cases h:ub is i=true
  ·rw[aV h,aV h,aUQ,aV h]
  ·rw[aI h,aI h]
 | false=>
  rw[aI (by decide)];have e : -(apV (λi=>if ub is i=false then cw b i*gMg M.length (aps M) (vMg M is) (cw b) i else 0) M.length)=(-1)*apV (λi=>if ub is i=false then cw b i*gMg M.length (aps M) (vMg M is) (cw b) i else 0) M.length:=by grind
  rw[e,<-abC];refine uv λi _=>?_;by_cases h:ub is i=false
  ·rw[aV h,aV h,aUQ,aI (by rw[h];decide)];grind
  ·rw[aI h,aI h];grind
def aGr (M:List (List Rat)) (is:List Bool) (b:List Rat) (i:Nat):Bool:=if ub is i=true then decide (dW (wyL M is b) (M.getD i [])<dW (wyL M is b) (ptL M is b true)) else decide (dW (wyL M is b) (ptL M is b false)<dW (wyL M is b) (M.getD i []))
theorem aVL (M:List (List Rat)) (is:List Bool) (b:List Rat) (i:Nat):aGr M is b i=true↔gMg M.length (aps M) (vMg M is) (cw b) i<hiW M.length (aps M) (vMg M is) (ub is) (cw b) (ub is i):=by
 unfold aGr
 cases h:ub is i with
 | true=>rw[aV rfl,aXh,aUQ,aV rfl,aV h,decide_eq_true_iff]
 | false=>rw[aI (by decide),aXh,aUQ,aI (by decide),aI (by rw[h];decide),decide_eq_true_iff];constructor<;>intro h<;>grind
def aVf (M:List (List Rat)) (is:List Bool) (b:List Rat):Option Nat:=aNc M.length (aps M) (vMg M is) (ub is) (cw b) M.length
def aL1 (M:List (List Rat)) (is:List Bool) (b:List Rat):Int:=match aVf M is b with
 | some r=>(r:Int)
 | none=> -1
theorem aWN {i:Nat} (hi:i<M.length) (h1:∀k,k<i->aGr M is b k=false) (h2:aGr M is b i=true):aL1 M is b=(i:Int):=by
 have key:∀k,k<=i->aNc M.length (aps M) (vMg M is) (ub is) (cw b) k=none:=λk=>by
  induction k with
  | zero=>intro _;rfl
  | succ k ih=>intro hk;unfold aNc;rw[ih (by omega)];exact aI λh=>by have:=(aVL M is b k).2 h;rw[h1 k (by omega)] at this;cases this
 have at':∀d,aNc M.length (aps M) (vMg M is) (ub is) (cw b) (i+1+d)=some i:=λd=>by
  induction d with
  | zero=>show aNc M.length (aps M) (vMg M is) (ub is) (cw b) (i+1)=some i;unfold aNc;rw[key i (bF i)];exact aV ((aVL M is b i).1 h2)
  | succ d ih=>show aNc M.length (aps M) (vMg M is) (ub is) (cw b) (i+1+d+1)=some i;unfold aNc;rw[ih]
 obtain⟨d,hd⟩:=K4 (show i+1<=M.length from hi);have e:=at' d;rw[<-hd] at e;unfold aL1 aVf;rw[e]
theorem aXz (h:∀k,k<M.length->aGr M is b k=false):aL1 M is b = -1:=by
 have key:∀k,k<=M.length->aNc M.length (aps M) (vMg M is) (ub is) (cw b) k=none:=λk=>by
  induction k with
  | zero=>intro _;rfl
  | succ k ih=>intro hk;unfold aNc;rw[ih (by omega)];exact aI λh'=>by have:=(aVL M is b k).2 h';rw[h k (by omega)] at this;cases this
 unfold aL1 aVf;rw[key _ (bF _)]
end Go.Proofs.YtlijkeolpmgioaaGreatDoor.AM
namespace Go.Proofs.YtlijkeolpmgioaaGreatDoor.AM
def LB:Nat:=40000000
structure Trn (x:List (List Rat)) (y:List Rat):Prop where
 right:as3 x=true
 n16:x.length<=16
 w3:aps x<=3
 len:x.length=y.length
 sx:SM 256 x
 sy:SL 256 y
structure Lin (x:List (List Rat)) (W:List Rat) (B:Rat):Prop where
 len:W.length=aps x
 sW:SL LB W
 sB:Sq LB B
theorem Sq.one {k:Nat} (h:1<=k):Sq k 1:=Sq.int (n:=1) (Sm.one.le h) h
theorem Sq.atH:Sq 64 2:=Sq.int (n:=2) (Sm.lit (by omega)) (by omega)
theorem avQ {n i:Nat} (hi:i<n):(bh n n).getD i 0=i+1:=by unfold bh;rw[fW hi,aV hi]
theorem asV {n m i:Nat} {F:Nat->Nat->Rat} (hi:i<n):(bD n m F).getD (i+1) []=aA m (F i):=by unfold bD;rw[C5,na hi]
theorem apI {n m:Nat} {F G:Nat->Nat->Rat} (h:∀a b,a<n->b<m->F a b=G a b):bD n m F=bD n m G:=by unfold bD;rw[jn h]
theorem asW {n m i j:Nat} {F:Nat->Nat->Rat} (hi:i<n) (hj:j<m) (v:Rat):(bD n m F).set (i+1) ((aA m (F i)).set j v)=bD n m λa b=>if a=i/\b=j then v else F a b:=by
 unfold bD aG;rw[List.set_cons_succ,mY hj,mY hi];congr 1;refine bE λa _=>?_
 by_cases e:a=i
 ·rw[aV e];refine bE λb _=>?_;by_cases e2:b=j
  ·exact(aV e2).trans (aV (show a=i/\b=j from ⟨e,e2⟩)).symm
  ·exact(aI e2).trans ((aI (show ¬(a=i/\b=j) from λh=>e2 h.2)).trans (by rw[e])).symm
 ·rw[aI e];exact bE λb _=>(aI (show ¬(a=i/\b=j) from λh=>e h.1)).symm
section
variable {x:List (List Rat)} {y:List Rat} {r:Rat} {W:List Rat} {B:Rat}
end
open Go.RowKit
def chI (is:List Bool):Int:=if ∀i,i<is.length->ub is i=ub is 0 then 7 else 0
def Shp (M:List (List Rat)) (is:List Bool):Prop:=as3 M=true/\M.length<=300/\aps M<=20/\is.length=M.length
instance (M:List (List Rat)) (is:List Bool):Decidable (Shp M is):=by unfold Shp;infer_instance
def chE (M:List (List Rat)) (is:List Bool):Int:=if Shp M is then (if 24<M.length then 4 else chI is) else 5
def WtP (b:List Rat) (is:List Bool):Prop:=b.length=is.length/\(∀i,i<b.length->0<=cw b i)/\sdS b.length (ub is) true (cw b)=1/\sdS b.length (ub is) false (cw b)=1
instance (b:List Rat) (is:List Bool):Decidable (WtP b is):=by unfold WtP;infer_instance
def GB:Nat:=2000000
structure MgG (M:List (List Rat)) (is:List Bool) (b:List Rat):Prop where
 right:as3 M=true
 len:is.length=M.length
 n24:M.length<=24
 w3:aps M<=3
 sM:∀i,SL 256 (M.getD i [])
 lb:b.length=M.length
 sb:SL GB b
def stQ (M:List (List Rat)) (is:List Bool) (b:List Rat):Rat:=(dW (ptL M is b false) (ptL M is b false)-dW (ptL M is b true) (ptL M is b true))/((2:Int):Rat)
theorem aUn {s:Nat->Bool} {t:Bool} {c:Nat->Rat} {i:Nat} (h:s i=t):sdS i s t c+c i=sdS (i+1) s t c:=by
 show _=sdS i s t c+(if s i=t then c i else 0)
 rw[aV h]
theorem aVg {s:Nat->Bool} {t:Bool} {c:Nat->Rat} {i:Nat} (h:s i≠t):sdS i s t c=sdS (i+1) s t c:=by
 show _=sdS i s t c+(if s i=t then c i else 0)
 rw[aI h,Rat.add_zero]
theorem aUR {x y:Rat}:fS x y<0↔x<y:=by
 unfold fS;by_cases h:x<y
 ·rw[aV h];exact⟨λ_=>h,λ_=>by omega⟩
 ·rw[aI h];split<;>exact⟨λe=>absurd e (by omega),λe=>absurd e h⟩
theorem aWO {x y:Rat}:0<fS x y↔y<x:=by
 unfold fS;by_cases h:x<y
 ·rw[aV h];exact⟨λe=>absurd e (by omega),λe=>absurd e (by grind)⟩
 ·rw[aI h];by_cases h2:x=y
  ·rw[aV h2];exact⟨λe=>absurd e (by omega),λe=>absurd e (by grind)⟩
  ·rw[aI h2];exact⟨λ_=>by grind,λ_=>by omega⟩
theorem aQP (M:List (List Rat)) (is:List Bool) (b:List Rat) (t:Bool):(ptL M is b t).length=aps M:=mX ..
theorem aVh (M:List (List Rat)) (is:List Bool) (b:List Rat):(wyL M is b).length=aps M:=mX ..
theorem aUo {M:List (List Rat)} {is:List Bool} {b:List Rat} {j:Nat} (t:Bool) (hj:j<aps M):(ptL M is b t).getD j 0=ptS M is b t M.length j:=fW hj 0
theorem aSg {xs ys:List Rat} {j k:Nat} (hx:SL j xs) (hy:SL k ys) (hl:xs.length<=3) (sE:j+k<=200000010):lM xs ys:=⟨j,k,hx,hy,by have:=gU (j+k+1) hl;unfold BQ;omega⟩
theorem aVi {xs ys:List Rat} {j k:Nat} (hx:SL j xs) (hy:SL k ys) (hl:xs.length<=3) (sE:j+k<=200000010):Sq 700000000 (dW xs ys):=(x4 hx hy).le (by have:=gU (j+k+1) hl;omega)
section
variable {M:List (List Rat)} {is:List Bool} {b:List Rat}
theorem MgG.pt (h:MgG M is b) {m:Nat} (hm:m<=M.length) (t:Bool) (j:Nat):Sq 50000000 (ptS M is b t m j):=by
 have h24:=h.n24;refine(Sq.apV (k:=256+GB) λi _=>?_).le (by have:=gU (256+GB+1) (show m<=24 by omega);unfold GB at *;omega);split
 ·exact(h.sM i j).mul (h.sb i)
 ·exact Sq.zero _ (by omega)
theorem MgG.sp (h:MgG M is b) (t:Bool):SL 50000000 (ptL M is b t):=SL.mk (λj _=>h.pt (bF _) t j) (by omega)
theorem MgG.sw (h:MgG M is b):SL 100000001 (wyL M is b):=SL.mk (λj _=>((h.pt (bF _) true j).sub (h.pt (bF _) false j)).le (by omega)) (by omega)
theorem MgG.lp (h:MgG M is b) (t:Bool):(ptL M is b t).length<=3:=by rw[aQP];exact h.w3
theorem MgG.lw (h:MgG M is b):(wyL M is b).length<=3:=by rw[aVh];exact h.w3
end
noncomputable def LJ0:List az:=[]
theorem aVZ:bd LJ0:=trivial
def a3G:List AV->Option (Option Prop×AV×List Ob)
 | [.k (.list (.list .q)) M,.k (.list .bool) is]=>some (none,.k (.int .i64) (chE M is),[])
 | _=>none
def aTd:az:=⟨44,false,a3G⟩
def aT1 (M:List (List Rat)) (is:List Bool):bk:=⟨nU,λkey_=>match key_ with
 | 7=>some (⟨Nat,λi=>[(0,.k (.list (.list .q)) M),(1,.k (.list .bool) is),(5,.k (.int .i64) ((aps M:Nat):Int)),(35,.k (.list (.list .q)) M),(36,.k (.int .i64) ((M.length:Nat):Int)),(37,.k (.int .i64) ((i:Nat):Int))],
 λ_=>[],λ_ i=>i<=M.length/\∀j,j<i->(M.getD j []).length=aps M,λi=>M.length-i⟩)
 | 15=>some (⟨Nat,λi=>[(1,.k (.list .bool) is),(49,.k (.list .bool) is),(50,.k (.int .i64) ((is.length:Nat):Int)),(51,.k (.int .i64) ((i:Nat):Int))],
 λ_=>[],λ_ i=>i<=is.length/\∀j,j<i->ub is j=ub is 0,λi=>is.length-i⟩) | _=>none,nR,nU⟩
def aQQ (M:List (List Rat)) (is:List Bool):Prop:=
 let t1:=(↑(aps M):Int);
 M.length<=aB->bif decide ((↑M.length:Int)<(1:Int)) then (5:Int)=chE M is else M.length<=aB->bif decide ((300:Int)<(↑M.length:Int)) then (5:Int) =
 chE M is else is.length<=aB->M.length<=aB->bif !decide ((↑is.length:Int)=(↑M.length:Int)) then (5:Int)=chE M is else ((0:Int)<=(0:Int)/\(0:Int) <
 (↑M.length:Int))/\((aps M)<=aB->bif decide (t1<(1:Int)) then (5:Int)=chE M is else bif decide ((20:Int)<t1) then (5:Int)=chE M is else M.length <=
 aB->∃(x0:Nat),(M=M/\is=is/\t1=t1/\M=M/\(↑M.length:Int)=(↑M.length:Int)/\(0:Int)=(x0:Int))/\(x0<=M.length/\∀(j:Nat),j<x0->(M.getD
 j []).length=aps M)/\∀(x:Nat),(x<=M.length/\∀(j:Nat),j<x->(M.getD j []).length=aps M)->bif decide ((x:Int)<(↑M.length:Int)) then ((0:Int)
 <= (x:Int)/\(x:Int)<(↑M.length:Int))/\((M.getD (x:Int).toNat []).length<=aB->bif !decide ((↑(M.getD (x:Int).toNat []).length:Int)=t1) then (5 :
 Int)=chE M is else ax ((x:Int)+(1:Int))/\∃(x':Nat),(M=M/\is=is/\t1=t1/\M=M/\(↑M.length:Int)=(↑M.length:Int)/\(x:Int)+(1:Int) =
 (x':Int))/\(x'<=M.length/\∀(j:Nat),j<x'->(M.getD j []).length=aps M)/\M.length-x'<M.length-x) else M.length<=aB->bif decide ((24:Int) <
 (↑M.length:Int)) then (4:Int)=chE M is else is.length<=aB->∃(x0:Nat),(is=is/\is=is/\(↑is.length:Int)=(↑is.length:Int)/\(0:Int)=(x0:Int))
 /\ (x0<=is.length/\∀(j:Nat),j<x0->ub is j=ub is (0:Nat))/\∀(x:Nat),(x<=is.length/\∀(j:Nat),j<x->ub is j=ub is (0:Nat))->bif decide ((↑x :
 Int)<(↑is.length:Int)) then ((0:Int)<=(x:Int)/\(x:Int)<(↑is.length:Int))/\((0:Int)<=(0:Int)/\(0:Int)<(↑is.length:Int))/\bif !is.getD (↑x :
 Int).toNat false == is.getD (Int.toNat (0:Int)) false then (0:Int)=chE M is else ax ((x:Int)+(1:Int))/\∃(x':Nat),(is=is/\is=is/\(↑is.length :
 Int)=(↑is.length:Int)/\(x:Int)+(1:Int)=(x':Int))/\(x'<=is.length/\∀(j:Nat),j<x'->ub is j=ub is (0:Nat))/\is.length-x'<is.length-x
 else (7:Int)=chE M is)
theorem aTg (M:List (List Rat)) (is:List Bool):aw LJ0 [] (aT1 M is) Tryz.f44 (.k (.int .i64) (chE M is)) [.k (.list (.list .q)) M,.k (.list .bool) is]=aQQ M is:=by kernel_rfl
theorem aTk (M:List (List Rat)) (is:List Bool) (hf:cJ [.k (.list (.list .q)) M,.k (.list .bool) is]):aQQ M is:=by
 have no:¬Shp M is->(5:Int)=chE M is:=λh=>(aI h).symm;unfold aQQ;dsimp only;refine λ_=>aH (λh=>no λhs=>by have:=(ba hs.1).1;omega) λh1 _=>aH (λh=>no λhs=>by have:=hs.2.1;omega) λh2 _ _=>dP (λh=>no λhs=>h (by have:=hs.2.2.2;omega)) λh3=>⟨⟨by omega,by omega⟩,λ_=>aH (λh=>no λhs=>by have:=(ba hs.1).2.1;omega) λh4=>aH (λh=>no λhs=>by have:=hs.2.2.1;omega) λh5 _=>⟨0,⟨rfl,rfl,rfl,rfl,rfl,rfl⟩,⟨fi _,λj hj=>absurd hj (ia j)⟩,λi ⟨hi,gK⟩=>aH (λh=>?_) λh _=>?_⟩⟩
 ·have hi':i<M.length:=by omega
  refine⟨⟨by omega,h⟩,λ_=>dP (λh6=>no λhs=>h6 ?_) λh6=>⟨by unfold ax;omega,i+1,⟨rfl,rfl,rfl,rfl,rfl,rfl⟩,⟨hi',λj hj=>?_⟩,by omega⟩⟩
  ·show(((M.getD i []).length:Nat):Int)=((aps M:Nat):Int)
   rw[(ba hs.1).2.2 i hi']
  ·rcases cM j i with h7 | h7
   ·exact gK j h7
   ·rw[show j=i by omega];have h8:(((M.getD i []).length:Nat):Int)=((aps M:Nat):Int):=h6;omega
 ·have hS:Shp M is:=⟨nM (by omega) (by show aps M≠0;omega) λj hj=>gK j (by omega),by omega,by omega,by omega⟩
  have eC:chE M is=if 24<M.length then 4 else chI is:=aV hS
  rw[eC];refine aH (λh6=>(aV (by omega)).symm) λh6 _=>?_;rw[aI (by omega)];refine⟨0,⟨rfl,rfl,rfl,rfl⟩,⟨fi _,λj hj=>absurd hj (ia j)⟩,λi ⟨hi,bB⟩=>aH (λh=>?_) λh=>?_⟩
  ·have hi':i<is.length:=by omega
   refine⟨⟨by omega,h⟩,⟨by omega,by omega⟩,?_⟩;change bif !(ub is i == ub is 0) then _ else _
   cases e:(ub is i == ub is 0) with
   | false=>show(0:Int)=chI is;exact(aI λhf=>by rw[hf i hi',beq_self_eq_true] at e;cases e).symm
   | true=>
    rw[show(!true)=false from rfl,qY];refine⟨by unfold ax;omega,i+1,⟨rfl,rfl,rfl,rfl⟩,⟨by omega,λj hj=>?_⟩,by omega⟩;rcases cM j i with h4 | h4
    ·exact bB j h4
    ·rw[show j=i by omega];exact LF e
  ·exact(aV λj hj=>bB j (by omega)).symm
theorem aTz:aqJ (cfg []) aTd:=cf aVZ bp Tryz.func44 λa _ _ _ hc hg hf=>by change a3G a=_ at hc;unfold a3G at hc;split at hc<;>cases hc;cases aY (aTg _ _) (aTk _ _ hf);exact⟨rfl,by kernel_rfl,_,by assumption⟩
noncomputable def LJ1:List az:=xK::Cb::xM::Wk::aa5::Ke::Nj::WU::[]
theorem aPi:bd LJ1:=⟨pI,tA,pJ,Qx,V5,z7,J0,Q4,trivial⟩
def a09:List AV->Option (Option Prop×AV×List Ob)
 | [.k (.list .q) b,.k (.list .bool) is]=>some (some (b.length<=24/\SL GB b),.k .bool (decide (WtP b is)),[])
 | _=>none
def aWJ:az:=⟨45,false,a09⟩
def aXw (b:List Rat) (is:List Bool):bk:=⟨λkey_=>match key_ with | 13=>7 | _=>0,λkey_=>match key_ with
 | 5=>some (⟨Nat,λi=>[(1,.k (.list .bool) is),(5,.pt 5 0 5 0 0),(6,.pt 6 0 5 0 0),(14,.k (.list .q) b),(15,.k (.int .i64) ((b.length:Nat):Int)),(16,.k (.int .i64) ((i:Nat):Int))],
 λi=>[(5,.box 55 (.k .q (sdS i (ub is) true (cw b)))),(6,.box 55 (.k .q (sdS i (ub is) false (cw b))))],
 λ_ i=>i<=b.length/\b.length=is.length/\∀j,j<i->0<=cw b j,λi=>b.length-i⟩) | _=>none,nR,nU⟩
def aS2 (b:List Rat) (is:List Bool):Prop:=b.length<=aB->is.length<=aB->bif !decide ((↑b.length:Int)=(↑is.length:Int)) then false=decide (WtP b is) else b.length<=aB->∃(x0:Nat),((is=is/\b =
 b/\(↑b.length:Int)=(↑b.length:Int)/\(0:Int)=(x0:Int))/\(0:Rat)=sdS x0 (ub is) true (cw b)/\(0:Rat)=sdS x0 (ub is) false (cw b))/\(x0<=b.length
 /\ b.length=is.length/\∀(j:Nat),j<x0->(0:Rat)<=cw b j)/\∀(x:Nat),let u1:=b.getD (x:Int).toNat (0:Rat);(x<=b.length/\b.length=is.length/\∀(j
 : Nat),j<x->(0:Rat)<=cw b j)->bif decide ((x:Int)<(↑b.length:Int)) then ((0:Int)<=(x:Int)/\(x:Int)<(↑b.length:Int))/\Sq BQ u1/\bif decide
 (u1.num.sign<(0:Int)) then false=decide (WtP b is) else ((0:Int)<=(x:Int)/\(x:Int)<(↑is.length:Int))/\bif is.getD (x:Int).toNat false then (Sq BQ
 (sdS x (ub is) true (cw b))/\Sq BQ u1)/\ax ((x:Int)+(1:Int))/\∃(x':Nat),((is=is/\b=b/\(↑b.length:Int)=(↑b.length:Int)/\(x:Int)+(1:Int)
 = (x':Int))/\sdS x (ub is) true (cw b)+b.getD (x:Int).toNat (0:Rat)=sdS x' (ub is) true (cw b)/\sdS x (ub is) false (cw b)=sdS x' (ub is) false (cw b)) /\
 (x'<=b.length/\b.length=is.length/\∀(j:Nat),j<x'->(0:Rat)<=cw b j)/\b.length-x'<b.length-x else (Sq BQ (sdS x (ub is) false (cw b))/\Sq BQ u1) /\
 ax ((x:Int)+(1:Int))/\∃(x':Nat),((is=is/\b=b/\(↑b.length:Int)=(↑b.length:Int)/\(x:Int)+(1:Int)=(x':Int))/\sdS x (ub is) true (cw
 b)=sdS x' (ub is) true (cw b)/\sdS x (ub is) false (cw b)+b.getD (x:Int).toNat (0:Rat)=sdS x' (ub is) false (cw b))/\(x'<=b.length/\b.length=is.length /\
 ∀(j:Nat),j<x'->(0:Rat)<=cw b j)/\b.length-x'<b.length-x else ax (1:Int)/\(Sq BQ (sdS x (ub is) true (cw b))/\Sq BQ (↑(1:Int):Rat))/\bif decide
 (fS (sdS x (ub is) true (cw b)) (↑(1:Int):Rat)=(0:Int)) then ax (1:Int)/\(Sq BQ (sdS x (ub is) false (cw b))/\Sq BQ (↑(1:Int):Rat))/\decide (fS
 (sdS x (ub is) false (cw b)) (↑(1:Int):Rat)=(0:Int))=decide (WtP b is) else false=decide (WtP b is)
theorem aWY (b:List Rat) (is:List Bool):aw LJ1 [] (aXw b is) Tryz.f45 (.k .bool (decide (WtP b is))) [.k (.list .q) b,.k (.list .bool) is]=aS2 b is:=by kernel_rfl
theorem aWZ (b:List Rat) (is:List Bool) (hg:b.length<=24/\SL GB b) (hf:cJ [.k (.list .q) b,.k (.list .bool) is]):aS2 b is:=by
 obtain⟨h24,hb⟩:=hg;have hS:∀i t,i<=b.length->Sq BQ (sdS i (ub is) t (cw b)):=λi t hi=>(Sq.apV (k:=GB) λj _=>by
  split
  ·exact hb j
  ·exact Sq.zero _ (by unfold GB;omega)).le (by have:=gU (GB+1) (show i<=24 by omega);unfold GB BQ at *;omega)
 have hB:∀i,Sq BQ (b.getD i 0):=λi=>(hb i).le (by unfold GB BQ;omega);have h1q:Sq BQ ((1:Int):Rat):=Sq.one (by unfold BQ;omega);unfold aS2;dsimp only;refine λ_ _=>dP (λh=>(eJ λe=>h (by rw[e.1])).symm) λh _=>⟨0,⟨⟨rfl,rfl,rfl,rfl⟩,rfl,rfl⟩,⟨fi _,by omega,λj hj=>absurd hj (ia j)⟩,λi ⟨hi,hlen,bB⟩=>aH (λh1=>?_) λh1=>?_⟩
 ·have hi':i<b.length:=by omega
  refine⟨⟨by omega,h1⟩,hB i,aH (λh2=>(eJ λe=>absurd (C1.1 h2) (Mt.2 (G0.2 (e.2.1 i hi')))).symm) λh2=>⟨⟨by omega,by omega⟩,?_⟩⟩;have hp:0<=cw b i:=G0.1 (Mt.1 λh3=>h2 (C1.2 h3));have aW7:∀j,j<i+1->0<=cw b j:=λj hj=>by
   rcases cM j i with h4 | h4
   ·exact bB j h4
   ·rw[show j=i by omega];exact hp
  change bif ub is i then _ else _
  cases e:ub is i with
  | true=>exact⟨⟨hS i true hi,hB i⟩,by unfold ax;omega,i+1,⟨⟨rfl,rfl,rfl,rfl⟩,aUn e,aVg (by rw[e];decide)⟩,⟨hi',hlen,aW7⟩,by omega⟩
  | false=>exact⟨⟨hS i false hi,hB i⟩,by unfold ax;omega,i+1,⟨⟨rfl,rfl,rfl,rfl⟩,aVg (by rw[e];decide),aUn e⟩,⟨hi',hlen,aW7⟩,by omega⟩
 ·have e:i=b.length:=by omega
  subst e;refine⟨by unfold ax;omega,⟨hS _ true (bF _),h1q⟩,aH (λh2=>⟨by unfold ax;omega,⟨hS _ false (bF _),h1q⟩,?_⟩) λh2=>(eJ λe=>h2 (gz.2 e.2.2.1)).symm⟩;exact yw.2 ⟨λh3=>⟨hlen,bB,gz.1 h2,gz.1 h3⟩,λe=>gz.2 e.2.2.2⟩
theorem aW8:aqJ (cfg []) aWJ:=cf aPi bp Tryz.func45 λa _ _ _ hc hg hf=>by change a09 a=_ at hc;unfold a09 at hc;split at hc<;>cases hc;cases aY (aWY _ _) (aWZ _ _ hg hf);exact⟨rfl,by kernel_rfl,_,by assumption⟩
def a2N:List AV->Option (Option Prop×AV×List Ob)
 | [.k (.list .q) b,.k (.list (.list .q)) M,.k (.list .bool) is]=>some (some (MgG M is b),T2 (.k (.list .q) (ptL M is b true)) (.k (.list .q) (ptL M is b false)),[])
 | _=>none
def aRA:az:=⟨46,false,a2N⟩
def aTA (b:List Rat) (M:List (List Rat)) (is:List Bool):bk:=⟨λkey_=>match key_ with | 12=>15 | _=>0,λkey_=>match key_ with
 | 4=>some (⟨Nat,λi=>[(0,.k (.list .q) b),(2,.k (.list .bool) is),(6,.own 16 0 5),(7,.own 21 0 5),(22,.k (.list (.list .q)) M),(23,.k (.int .i64) ((M.length:Nat):Int)),(24,.k (.int .i64) ((i:Nat):Int))],
 λi=>[(16,.arr 55 .q (aA (aps M) (ptS M is b true i))),(21,.arr 55 .q (aA (aps M) (ptS M is b false i)))],
 λ_ i=>i<=M.length,λi=>M.length-i⟩)
 | 5000026=>some (⟨Nat×Nat,λp=>[(0,.k (.list .q) b),(2,.k (.list .bool) is),(6,.own 16 0 5),(7,.own 21 0 5),(8,.k (.int .i64) ((p.2:Nat):Int)),(9,.k (.list .q) (M.getD p.2 [])),(10,.own 16 0 5),(22,.k (.list (.list .q)) M),(23,.k (.int .i64) ((M.length:Nat):Int)),(24,.k (.int .i64) ((p.2:Nat):Int)),(36,.k (.int .i64) ((aps M:Nat):Int)),(37,.k (.int .i64) ((p.1:Nat):Int))],
 λp=>[(16,.arr 55 .q (aA (aps M) λj=>ptS M is b true (if j<p.1 then p.2+1 else p.2) j)),(21,.arr 55 .q (aA (aps M) (ptS M is b false p.2)))],
 λq p=>p.2=q.2/\p.1<=aps M/\p.2<M.length/\ub is p.2=true,λp=>aps M-p.1⟩)
 | 5000031=>some (⟨Nat×Nat,λp=>[(0,.k (.list .q) b),(2,.k (.list .bool) is),(6,.own 16 0 5),(7,.own 21 0 5),(8,.k (.int .i64) ((p.2:Nat):Int)),(9,.k (.list .q) (M.getD p.2 [])),(10,.own 21 0 5),(22,.k (.list (.list .q)) M),(23,.k (.int .i64) ((M.length:Nat):Int)),(24,.k (.int .i64) ((p.2:Nat):Int)),(36,.k (.int .i64) ((aps M:Nat):Int)),(37,.k (.int .i64) ((p.1:Nat):Int))],
 λp=>[(16,.arr 55 .q (aA (aps M) (ptS M is b true p.2))),(21,.arr 55 .q (aA (aps M) λj=>ptS M is b false (if j<p.1 then p.2+1 else p.2) j))],
 λq p=>p.2=q.2/\p.1<=aps M/\p.2<M.length/\ub is p.2≠true,λp=>aps M-p.1⟩) | _=>none,nR,λkey_=>match key_ with | 3000010=>11 | _=>0⟩
def aNV (b:List Rat) (M:List (List Rat)) (is:List Bool):Prop:=
 let t1:=(↑(aps M):Int);
 ((0:Int)<=(0:Int)/\(0:Int)<(↑M.length:Int))/\((aps M)<=aB->((0:Int)<=t1/\t1<=t1/\t1<=(1099511627776:Int))/\((0:Int)<=(0:Int)/\(0:Int)
 < (↑M.length:Int))/\((aps M)<=aB->((0:Int)<=t1/\t1<=t1/\t1<=(1099511627776:Int))/\(M.length<=aB->∃(x0:Nat),((b=b/\is=is/\M=M/\(↑M.length
 : Int)=(↑M.length:Int)/\(0:Int)=(x0:Int))/\List.replicate t1.toNat (0:Rat)=aA (aps M) (ptS M is b true x0)/\List.replicate t1.toNat (0:Rat)=aA
 (aps M) (ptS M is b false x0))/\x0<=M.length/\∀(x:Nat),let u3:=M.getD (x:Int).toNat [];x<=M.length->bif decide ((x:Int)<(↑M.length:Int)) then ((0
 : Int)<=(x:Int)/\(x:Int)<(↑M.length:Int))/\((0:Int)<=(x:Int)/\(x:Int)<(↑is.length:Int))/\bif is.getD (x:Int).toNat false then u3.length <=
 aB->∃(x0b:Nat×Nat),((b=b/\is=is/\(x:Int)=(↑x0b.2:Int)/\M.getD (x:Int).toNat []=M.getD x0b.2 []/\M=M/\(↑M.length:Int)=(↑M.length:Int)
 /\ (x:Int)=(↑x0b.2:Int)/\(↑u3.length:Int)=t1/\(0:Int)=(↑x0b.1:Int))/\(aA (aps M) (ptS M is b true x)=aA (aps M) λ(j:Nat)=>ptS M is b
 true (if j<x0b.1 then x0b.2+(1:Nat) else x0b.2) j)/\aA (aps M) (ptS M is b false x)=aA (aps M) (ptS M is b false x0b.2))/\(x0b.2=x0b.2/\x0b.1<=aps M
 /\ x0b.2<M.length/\ub is x0b.2=true)/\∀(y1:Nat×Nat),let u2:=aA (aps M) λ(j:Nat)=>ptS M is b true (if j<y1.1 then y1.2+(1:Nat) else y1.2) j;
 y1.2=x0b.2/\y1.1<=aps M/\y1.2<M.length/\ub is y1.2=true->bif decide ((↑y1.1:Int)<t1) then ((0:Int)<=(↑y1.1:Int)/\(↑y1.1:Int)<(↑u2.length :
 Int))/\(↑y1.1:Int).toNat<u2.length/\((0:Int)<=(↑y1.1:Int)/\(↑y1.1:Int)<(↑(M.getD y1.2 []).length:Int))/\((0:Int)<=(↑y1.2:Int)/\(↑y1.2:Int) <
 (↑b.length:Int))/\(Sq BQ ((M.getD y1.2 []).getD (↑y1.1:Int).toNat (0:Rat))/\Sq BQ (b.getD (↑y1.2:Int).toNat (0:Rat)))/\(Sq BQ (u2.getD (↑y1.1:Int).toNat (0
 : Rat))/\Sq BQ ((M.getD y1.2 []).getD (↑y1.1:Int).toNat (0:Rat)*b.getD (↑y1.2:Int).toNat (0:Rat)))/\((0:Int)<=(↑y1.1:Int)/\(↑y1.1:Int)<(↑u2.length :
 Int))/\(↑y1.1:Int).toNat<u2.length/\ax ((↑y1.1:Int)+(1:Int))/\∃(x':Nat×Nat),((b=b/\is=is/\(↑y1.2:Int)=(↑x'.2:Int)/\M.getD y1.2 [] =
 M.getD x'.2 []/\M=M/\(↑M.length:Int)=(↑M.length:Int)/\(↑y1.2:Int)=(↑x'.2:Int)/\t1=t1/\(↑y1.1:Int)+(1:Int)=(↑x'.1:Int))/\(u2.set (↑y1.1 :
 Int).toNat (u2.getD (↑y1.1:Int).toNat (0:Rat)+(M.getD y1.2 []).getD (↑y1.1:Int).toNat (0:Rat)*b.getD (↑y1.2:Int).toNat (0:Rat))=aA (aps M) λ(j :
 Nat)=>ptS M is b true (if j<x'.1 then x'.2+(1:Nat) else x'.2) j)/\aA (aps M) (ptS M is b false y1.2)=aA (aps M) (ptS M is b false x'.2))/\(x'.2=x0b.2
 /\ x'.1<=aps M/\x'.2<M.length/\ub is x'.2=true)/\aps M-x'.1<aps M-y1.1 else ax ((↑y1.2:Int)+(1:Int))/\∃(x'b:Nat),((b=b/\is=is/\M=M
 /\ (↑M.length:Int)=(↑M.length:Int)/\(↑y1.2:Int)+(1:Int)=(x'b:Int))/\u2=aA (aps M) (ptS M is b true x'b)/\aA (aps M) (ptS M is b false y1.2) =
 aA (aps M) (ptS M is b false x'b))/\x'b<=M.length/\M.length-x'b<M.length-x else u3.length<=aB->∃(x0b:Nat×Nat),((b=b/\is=is/\(x:Int) =
 (↑x0b.2:Int)/\M.getD (x:Int).toNat []=M.getD x0b.2 []/\M=M/\(↑M.length:Int)=(↑M.length:Int)/\(x:Int)=(↑x0b.2:Int)/\(↑u3.length:Int)=t1/\(0
 : Int)=(↑x0b.1:Int))/\aA (aps M) (ptS M is b true x)=aA (aps M) (ptS M is b true x0b.2)/\aA (aps M) (ptS M is b false x)=aA (aps M) λ(j:Nat)=>
 ptS M is b false (if j<x0b.1 then x0b.2+(1:Nat) else x0b.2) j)/\(x0b.2=x0b.2/\x0b.1<=aps M/\x0b.2<M.length/\ub is x0b.2≠true)/\∀(y1:Nat×Nat),
 let u1:=aA (aps M) λ(j:Nat)=>ptS M is b false (if j<y1.1 then y1.2+(1:Nat) else y1.2) j;y1.2=x0b.2/\y1.1<=aps M/\y1.2<M.length/\ub is y1.2 ≠
 true->bif decide ((↑y1.1:Int)<t1) then ((0:Int)<=(↑y1.1:Int)/\(↑y1.1:Int)<(↑u1.length:Int))/\(↑y1.1:Int).toNat<u1.length/\((0:Int)<=(↑y1.1 :
 Int)/\(↑y1.1:Int)<(↑(M.getD y1.2 []).length:Int))/\((0:Int)<=(↑y1.2:Int)/\(↑y1.2:Int)<(↑b.length:Int))/\(Sq BQ ((M.getD y1.2 []).getD (↑y1.1 :
 Int).toNat (0:Rat))/\Sq BQ (b.getD (↑y1.2:Int).toNat (0:Rat)))/\(Sq BQ (u1.getD (↑y1.1:Int).toNat (0:Rat))/\Sq BQ ((M.getD y1.2 []).getD (↑y1.1:Int).toNat
 (0:Rat)*b.getD (↑y1.2:Int).toNat (0:Rat)))/\((0:Int)<=(↑y1.1:Int)/\(↑y1.1:Int)<(↑u1.length:Int))/\(↑y1.1:Int).toNat<u1.length/\ax ((↑y1.1 :
 Int)+(1:Int))/\∃(x':Nat×Nat),((b=b/\is=is/\(↑y1.2:Int)=(↑x'.2:Int)/\M.getD y1.2 []=M.getD x'.2 []/\M=M/\(↑M.length:Int)=(↑M.length :
 Int)/\(↑y1.2:Int)=(↑x'.2:Int)/\t1=t1/\(↑y1.1:Int)+(1:Int)=(↑x'.1:Int))/\aA (aps M) (ptS M is b true y1.2)=aA (aps M) (ptS M is b true x'.2)
 /\ u1.set (↑y1.1:Int).toNat (u1.getD (↑y1.1:Int).toNat (0:Rat)+(M.getD y1.2 []).getD (↑y1.1:Int).toNat (0:Rat)*b.getD (↑y1.2:Int).toNat (0:Rat))=aA
 (aps M) λ(j:Nat)=>ptS M is b false (if j<x'.1 then x'.2+(1:Nat) else x'.2) j)/\(x'.2=x0b.2/\x'.1<=aps M/\x'.2<M.length/\ub is x'.2≠true) /\
 aps M-x'.1<aps M-y1.1 else ax ((↑y1.2:Int)+(1:Int))/\∃(x'b:Nat),((b=b/\is=is/\M=M/\(↑M.length:Int)=(↑M.length:Int)/\(↑y1.2:Int) +
 (1:Int)=(x'b:Int))/\aA (aps M) (ptS M is b true y1.2)=aA (aps M) (ptS M is b true x'b)/\u1=aA (aps M) (ptS M is b false x'b))/\x'b<=M.length /\
 M.length-x'b<M.length-x else aA (aps M) (ptS M is b true x)=ptL M is b true/\aA (aps M) (ptS M is b false x)=ptL M is b false)))
theorem aSh (b:List Rat) (M:List (List Rat)) (is:List Bool):aw LJ1 [] (aTA b M is) Tryz.f46 (T2 (.k (.list .q) (ptL M is b true)) (.k (.list .q) (ptL M is b false))) [.k (.list .q) b,.k (.list (.list .q)) M,.k (.list .bool) is]=aNV b M is:=by kernel_rfl
theorem aSi (b:List Rat) (M:List (List Rat)) (is:List Bool) (hg:MgG M is b):aNV b M is:=by
 obtain⟨m1,m2,m3⟩:=ba hg.right;have h24:=hg.n24;have h3:=hg.w3;have hl:=hg.len;have kh:=hg.lb;have gK:∀i j,Sq BQ ((M.getD i []).getD j 0):=λi j=>(hg.sM i j).le (by unfold BQ;omega);have hbq:∀i,Sq BQ (b.getD i 0):=λi=>(hg.sb i).le (by unfold GB BQ;omega);have Y9:∀i j,Sq BQ ((M.getD i []).getD j 0*b.getD i 0):=λi j=>((hg.sM i j).mul (hg.sb i)).le (by unfold GB BQ;omega);have hpt:∀t m j,m<=M.length->Sq BQ (ptS M is b t m j):=λt m j hm=>(hg.pt hm t j).le (by unfold BQ;omega);unfold aNV;dsimp only;rw[show((aps M:Nat):Int).toNat=aps M from rfl];refine⟨⟨by omega,by omega⟩,λ_=>⟨⟨by omega,by omega,by omega⟩,⟨by omega,by omega⟩,λ_=>⟨⟨by omega,by omega,by omega⟩,λ_=>⟨0,⟨⟨rfl,rfl,rfl,rfl,rfl⟩,iO _ _,iO _ _⟩,fi _,λi hi=>aH (λh=>?_) λh=>?_⟩⟩⟩⟩
 ·have hi':i<M.length:=by omega
  refine⟨⟨by omega,h⟩,⟨by omega,by omega⟩,?_⟩;change bif ub is i then _ else _
  cases e:ub is i with
  | true=>
   refine λ_=>⟨(0,i),⟨⟨rfl,rfl,rfl,rfl,rfl,rfl,rfl,?_,rfl⟩,bE λj _=>by rw[aI (ia j)],rfl⟩,⟨rfl,fi _,hi',e⟩,λ⟨j,i2⟩ ⟨e1,hj,h2,e2⟩=>?_⟩
   ·show(((M.getD i []).length:Nat):Int)=_;rw[m3 i hi']
   dsimp only at e1 hj h2 e2 ⊢;subst e1;refine aH (λh4=>?_) λh4=>?_
   ·have uC:j<aps M:=by omega
    rw[show((j:Nat):Int).toNat=j from rfl,show((i2:Nat):Int).toNat=i2 from rfl,mX,fW uC,mY uC,aI (yq j)];refine⟨⟨by omega,h4⟩,uC,⟨by omega,by rw[m3 i2 h2];exact h4⟩,⟨by omega,by omega⟩,⟨gK i2 j,hbq i2⟩,⟨hpt _ _ _ (by omega),Y9 i2 j⟩,⟨by omega,h4⟩,uC,by unfold ax;omega,(j+1,i2),⟨⟨rfl,rfl,rfl,rfl,rfl,rfl,rfl,rfl,rfl⟩,bE λt ht=>?_,rfl⟩,⟨rfl,uC,h2,e2⟩,by show _-(j+1)<_-j;omega⟩;dsimp only;by_cases et:t=j
    ·rw[aV et,aV (by omega),et];exact(aPh e2 j).symm
    ·rw[aI et];by_cases et2:t<j
     ·rw[aV et2,aV (by omega)]
     ·rw[aI et2,aI (by omega)]
   ·have ej:j=aps M:=by omega
    subst ej;exact⟨by unfold ax;omega,i2+1,⟨⟨rfl,rfl,rfl,rfl,rfl⟩,bE λt ht=>by rw[aV ht],bE λt _=>(aSf (by rw[e2];decide) t).symm⟩,by omega,by omega⟩
  | false=>
   refine λ_=>⟨(0,i),⟨⟨rfl,rfl,rfl,rfl,rfl,rfl,rfl,?_,rfl⟩,rfl,bE λj _=>by rw[aI (ia j)]⟩,⟨rfl,fi _,hi',by show ub is i≠true;rw[e];decide⟩,λ⟨j,i2⟩ ⟨e1,hj,h2,e2⟩=>?_⟩
   ·show(((M.getD i []).length:Nat):Int)=_;rw[m3 i hi']
   dsimp only at e1 hj h2 e2 ⊢;subst e1;refine aH (λh4=>?_) λh4=>?_
   ·have uC:j<aps M:=by omega
    rw[show((j:Nat):Int).toNat=j from rfl,show((i2:Nat):Int).toNat=i2 from rfl,mX,fW uC,mY uC,aI (yq j)];refine⟨⟨by omega,h4⟩,uC,⟨by omega,by rw[m3 i2 h2];exact h4⟩,⟨by omega,by omega⟩,⟨gK i2 j,hbq i2⟩,⟨hpt _ _ _ (by omega),Y9 i2 j⟩,⟨by omega,h4⟩,uC,by unfold ax;omega,(j+1,i2),⟨⟨rfl,rfl,rfl,rfl,rfl,rfl,rfl,rfl,rfl⟩,rfl,bE λt ht=>?_⟩,⟨rfl,uC,h2,e2⟩,by show _-(j+1)<_-j;omega⟩;dsimp only;by_cases et:t=j
    ·rw[aV et,aV (by omega),et];exact(aPh e j).symm
    ·rw[aI et];by_cases et2:t<j
     ·rw[aV et2,aV (by omega)]
     ·rw[aI et2,aI (by omega)]
   ·have ej:j=aps M:=by omega
    subst ej;exact⟨by unfold ax;omega,i2+1,⟨⟨rfl,rfl,rfl,rfl,rfl⟩,bE λt _=>(aSf e2 t).symm,bE λt ht=>by rw[aV ht]⟩,by omega,by omega⟩
 ·rw[show i=M.length by omega];exact⟨rfl,rfl⟩
theorem aSj:aqJ (cfg []) aRA:=cf aPi bp Tryz.func46 λa _ _ _ hc hg hf=>by change a2N a=_ at hc;unfold a2N at hc;split at hc<;>cases hc;cases aY (aSh _ _ _) (aSi _ _ _ hg);exact⟨rfl,by kernel_rfl,_,by assumption⟩
def a5x:List AV->Option (Option Prop×AV×List Ob)
 | [.k (.list .q) xs,.k (.list .q) ys]=>some (some (xs.length=ys.length/\lM xs ys),.k .q (dW xs ys),[])
 | _=>none
def aVm:az:=⟨53,false,a5x⟩
def aVn (xs ys:List Rat):bk:=⟨nU,nL,nR,nU⟩
def aVo (xs ys:List Rat):Prop:=(xs.length=ys.length->lM xs ys)/\(if xs.length=ys.length then dW xs ys else (0:Rat))=dW xs ys
theorem aUC (xs ys:List Rat):aw LJ1 [] (aVn xs ys) Tryz.f53 (.k .q (dW xs ys)) [.k (.list .q) xs,.k (.list .q) ys]=aVo xs ys:=by kernel_rfl
theorem aUD (xs ys:List Rat) (hg:xs.length=ys.length/\lM xs ys):aVo xs ys:=by exact⟨λ_=>hg.2,aV hg.1⟩
theorem aUE:aqJ (cfg []) aVm:=cf aPi bp Tryz.func53 λa _ _ _ hc hg hf=>by change a5x a=_ at hc;unfold a5x at hc;split at hc<;>cases hc;cases aY (aUC _ _) (aUD _ _ hg);exact⟨rfl,by kernel_rfl,_,by assumption⟩
noncomputable def LJ2:List az:=aRA::aVm::LJ1
theorem aV0:bd LJ2:=⟨aSj,aUE,aPi⟩
def aNW:List AV->Option (Option Prop×AV×List Ob)
 | [.k (.list .q) b,.k (.list (.list .q)) M,.k (.list .bool) is]=>some (some (MgG M is b),.agg (.cons (.agg (.cons (.k (.list .q) (wyL M is b)) (.cons (.k .q (stQ M is b)) .nil))) (.cons (.k .q (dW (wyL M is b) (wyL M is b))) (.cons (.k (.list .q) b) .nil))),[])
 | _=>none
def aRB:az:=⟨51,false,aNW⟩
def aTB (b:List Rat) (M:List (List Rat)) (is:List Bool):bk:=⟨λkey_=>match key_ with | 6=>10 | 9=>7 | _=>0,λkey_=>match key_ with
 | 4=>some (⟨Nat,λi=>[(0,.k (.list .q) b),(6,.pt 6 0 12 0 0),(7,.k (.list .q) (ptL M is b true)),(8,.k (.list .q) (ptL M is b false)),(9,.own 22 0 5),(23,.own 22 0 5),(24,.k (.int .i64) ((aps M:Nat):Int)),(25,.k (.int .i64) ((i:Nat):Int))],
 λi=>[(6,.box 59 (.agg (.cons (.agg (.cons .dv (.cons (.k .q (0:Rat)) .nil))) (.cons (.k .q (0:Rat)) (.cons .dv .nil))))),(22,.arr 55 .q (aA (aps M) λj=>if j<i then ptS M is b true M.length j-ptS M is b false M.length j else 0))],
 λ_ i=>i<=aps M,λi=>aps M-i⟩) | _=>none,nR,nU⟩
def aN3 (b:List Rat) (M:List (List Rat)) (is:List Bool):Prop:=
 let t1:=ptL M is b true;
 let t2:=ptL M is b false;
 MgG M is b/\(t1.length<=aB->((0:Int)<=(↑t1.length:Int)/\(↑t1.length:Int)<=(↑t1.length:Int)/\(↑t1.length:Int)<=(1099511627776:Int))/\((List.replicate
 (↑t1.length:Int).toNat (0:Rat)).length<=aB->∃(x0:Nat),((b=b/\ptL M is b true=ptL M is b true/\ptL M is b false=ptL M is b false/\(↑(List.replicate
 (↑t1.length:Int).toNat (0:Rat)).length:Int)=(↑(aps M):Int)/\(0:Int)=(x0:Int))/\((0:Rat)=(0:Rat)/\(0:Rat)=(0:Rat))/\List.replicate
 (↑t1.length:Int).toNat (0:Rat)=aA (aps M) λ(j:Nat)=>if j<x0 then ptS M is b true M.length j-ptS M is b false M.length j else (0:Rat))/\x0<=aps M
 /\ ∀(x:Nat),x<=aps M->bif decide ((x:Int)<(↑(aps M):Int)) then ((0:Int)<=(x:Int)/\(x:Int)<(↑t1.length:Int))/\((0:Int)<=(x:Int)/\(↑x
 : Int)<(↑t2.length:Int))/\(Sq BQ (t1.getD (x:Int).toNat (0:Rat))/\Sq BQ (t2.getD (x:Int).toNat (0:Rat)))/\((0:Int)<=(x:Int)/\(x:Int)<(↑(aA
 (aps M) λ(j:Nat)=>if j<x then ptS M is b true M.length j-ptS M is b false M.length j else (0:Rat)).length:Int))/\(x:Int).toNat<(aA (aps M) fun
 (j:Nat)=>if j<x then ptS M is b true M.length j-ptS M is b false M.length j else (0:Rat)).length/\ax ((x:Int)+(1:Int))/\∃(x':Nat),((b=b/\ptL M
 is b true=ptL M is b true/\ptL M is b false=ptL M is b false/\(↑(aps M):Int)=(↑(aps M):Int)/\(x:Int)+(1:Int)=(x':Int))/\((0:Rat)=(0 :
 Rat)/\(0:Rat)=(0:Rat))/\(aA (aps M) λ(j:Nat)=>if j<x then ptS M is b true M.length j-ptS M is b false M.length j else (0:Rat)).set (↑x :
 Int).toNat (t1.getD (x:Int).toNat (0:Rat)-t2.getD (x:Int).toNat (0:Rat))=aA (aps M) λ(j:Nat)=>if j<x' then ptS M is b true M.length j-ptS M is
 b false M.length j else (0:Rat))/\x'<=aps M/\aps M-x'<aps M-x else (t2.length=t2.length/\lM t2 t2)/\(t1.length=t1.length/\lM t1 t1)/\(Sq BQ
 (dW t2 t2)/\Sq BQ (dW t1 t1))/\ax (2:Int)/\(Sq BQ (dW t2 t2-dW t1 t1)/\Sq BQ (↑(2:Int):Rat))/\((aA (aps M) λ(j:Nat)=>if j<x then ptS M
 is b true M.length j-ptS M is b false M.length j else (0:Rat)).length=(aA (aps M) λ(j:Nat)=>if j<x then ptS M is b true M.length j-ptS M is b false
 M.length j else (0:Rat)).length/\lM (aA (aps M) λ(j:Nat)=>if j<x then ptS M is b true M.length j-ptS M is b false M.length j else (0:Rat)) (aA
 (aps M) λ(j:Nat)=>if j<x then ptS M is b true M.length j-ptS M is b false M.length j else (0:Rat)))/\((aA (aps M) λ(j:Nat)=>if j<x then ptS M
 is b true M.length j-ptS M is b false M.length j else (0:Rat))=wyL M is b/\(dW t2 t2-dW t1 t1)/(↑(2:Int):Rat)=stQ M is b)/\dW (aA (aps M) fun
 (j:Nat)=>if j<x then ptS M is b true M.length j-ptS M is b false M.length j else (0:Rat)) (aA (aps M) λ(j:Nat)=>if j<x then ptS M is b true M.length
 j-ptS M is b false M.length j else (0:Rat))=dW (wyL M is b) (wyL M is b)/\b=b))
theorem aSk (b:List Rat) (M:List (List Rat)) (is:List Bool):aw LJ2 [] (aTB b M is) Tryz.f51 (.agg (.cons (.agg (.cons (.k (.list .q) (wyL M is b)) (.cons (.k .q (stQ M is b)) .nil))) (.cons (.k .q (dW (wyL M is b) (wyL M is b))) (.cons (.k (.list .q) b) .nil)))) [.k (.list .q) b,.k (.list (.list .q)) M,.k (.list .bool) is]=aN3 b M is:=by kernel_rfl
theorem aSm (b:List Rat) (M:List (List Rat)) (is:List Bool) (hg:MgG M is b):aN3 b M is:=by
 obtain⟨m1,m2,m3⟩:=ba hg.right;have h3:=hg.w3;have lt:=aQP M is b true;have lf:=aQP M is b false;have hpt:∀t j,Sq BQ (ptS M is b t M.length j):=λt j=>(hg.pt (bF _) t j).le (by unfold BQ;omega);have hd:∀t,Sq 700000000 (dW (ptL M is b t) (ptL M is b t)):=λt=>aVi (hg.sp t) (hg.sp t) (hg.lp t) (by omega);unfold aN3;dsimp only;rw[lt,lf];refine⟨hg,λ_=>⟨⟨by omega,by omega,by omega⟩,λ_=>⟨0,⟨⟨rfl,rfl,rfl,?_,rfl⟩,⟨rfl,rfl⟩,?_⟩,fi _,λi hi=>aH (λh=>?_) λh=>?_⟩⟩⟩
 ·rw[ux];rfl
 ·exact(iO _ _).trans (bE λj _=>(aI (ia j)).symm)
 ·have hi':i<aps M:=by omega
  rw[show((i:Nat):Int).toNat=i from rfl,aUo true hi',aUo false hi',mX,mY hi'];refine⟨⟨by omega,h⟩,⟨by omega,h⟩,⟨hpt _ _,hpt _ _⟩,⟨by omega,h⟩,hi',by unfold ax;omega,i+1,⟨⟨rfl,rfl,rfl,rfl,rfl⟩,⟨rfl,rfl⟩,bE λt _=>?_⟩,by omega,by omega⟩;by_cases e:t=i
  ·rw[aV e,aV (by omega),e]
  ·rw[aI e];by_cases e2:t<i
   ·rw[aV e2,aV (by omega)]
   ·rw[aI e2,aI (by omega)]
 ·have e:(aA (aps M) λj=>if j<i then ptS M is b true M.length j-ptS M is b false M.length j else 0)=wyL M is b:=bE λj hj=>aV (by omega);rw[e];exact⟨⟨rfl,aSg (hg.sp _) (hg.sp _) (hg.lp _) (by omega)⟩,⟨rfl,aSg (hg.sp _) (hg.sp _) (hg.lp _) (by omega)⟩,⟨(hd _).le (by unfold BQ;omega),(hd _).le (by unfold BQ;omega)⟩,by unfold ax;omega,⟨((hd _).sub (hd _)).le (by unfold BQ;omega),Sq.atH.le (by unfold BQ;omega)⟩,⟨rfl,aSg hg.sw hg.sw hg.lw (by omega)⟩,⟨rfl,rfl⟩,rfl,rfl⟩
theorem aSp:aqJ (cfg []) aRB:=cf aV0 bp Tryz.func51 λa _ _ _ hc hg hf=>by change aNW a=_ at hc;unfold aNW at hc;split at hc<;>cases hc;cases aY (aSk _ _ _) (aSm _ _ _ hg);exact⟨rfl,by kernel_rfl,_,by assumption⟩
def aRp:List AV->Option (Option Prop×AV×List Ob)
 | [.k (.list .q) b,.k (.list (.list .q)) M,.k (.list .bool) is]=>some (some (MgG M is b),.k (.int .i64) (aL1 M is b),[])
 | _=>none
def aVN:az:=⟨97,false,aRp⟩
def aWx (b:List Rat) (M:List (List Rat)) (is:List Bool):bk:=⟨λkey_=>match key_ with | 6=>10 | _=>0,λkey_=>match key_ with
 | 4=>some (⟨Nat,λi=>[(1,.k (.list (.list .q)) M),(2,.k (.list .bool) is),(7,.k (.list .q) (ptL M is b true)),(8,.k (.list .q) (ptL M is b false)),(9,.own 25 0 5),(26,.own 25 0 5),(27,.k (.int .i64) ((aps M:Nat):Int)),(28,.k (.int .i64) ((i:Nat):Int))],
 λi=>[(25,.arr 55 .q (aA (aps M) λj=>if j<i then ptS M is b true M.length j-ptS M is b false M.length j else 0))],
 λ_ i=>i<=aps M,λi=>aps M-i⟩)
 | 10=>some (⟨Nat,λi=>[(2,.k (.list .bool) is),(9,.k (.list .q) (wyL M is b)),(11,.pt 11 0 5 0 0),(12,.pt 12 0 5 0 0),(50,.k (.list (.list .q)) M),(51,.k (.int .i64) ((M.length:Nat):Int)),(52,.k (.int .i64) ((i:Nat):Int))],
 λi=>[(11,.box 55 (.k .q (dW (wyL M is b) (ptL M is b true)))),(12,.box 55 (.k .q (dW (wyL M is b) (ptL M is b false))))],
 λ_ i=>i<=M.length/\∀j,j<i->aGr M is b j=false,λi=>M.length-i⟩) | _=>none,nR,nU⟩
def aMy (b:List Rat) (M:List (List Rat)) (is:List Bool) (x:Nat):Prop:=((0:Int)<=(x:Int)/\(x:Int)<(↑is.length:Int))/\bif !is.getD (x:Int).toNat false then (Sq BQ (dW (wyL M is b) (M.getD (x:Int).toNat []))/\Sq BQ
 (dW (wyL M is b) (ptL M is b false)))/\bif decide ((0:Int)<fS (dW (wyL M is b) (M.getD (x:Int).toNat [])) (dW (wyL M is b) (ptL M is b false))) then (↑x :
 Int)=aL1 M is b else ax ((x:Int)+(1:Int))/\∃(x':Nat),((is=is/\wyL M is b=wyL M is b/\M=M/\(↑M.length:Int)=(↑M.length:Int)/\(x:Int) +
 (1:Int)=(x':Int))/\dW (wyL M is b) (ptL M is b true)=dW (wyL M is b) (ptL M is b true)/\dW (wyL M is b) (ptL M is b false)=dW (wyL M is b) (ptL M is
 b false))/\(x'<=M.length/\∀(j:Nat),j<x'->aGr M is b j=false)/\M.length-x'<M.length-x else ax ((x:Int)+(1:Int))/\∃(x':Nat),((is=is /\
 wyL M is b=wyL M is b/\M=M/\(↑M.length:Int)=(↑M.length:Int)/\(x:Int)+(1:Int)=(x':Int))/\dW (wyL M is b) (ptL M is b true)=dW (wyL M is b)
 (ptL M is b true)/\dW (wyL M is b) (ptL M is b false)=dW (wyL M is b) (ptL M is b false))/\(x'<=M.length/\∀(j:Nat),j<x'->aGr M is b j=false) /\
 M.length-x'<M.length-x
def aRq (b:List Rat) (M:List (List Rat)) (is:List Bool):Prop:=
 let t1:=ptL M is b true;
 let t2:=ptL M is b false;
 MgG M is b/\(t1.length<=aB->((0:Int)<=(↑t1.length:Int)/\(↑t1.length:Int)<=(↑t1.length:Int)/\(↑t1.length:Int)<=(1099511627776:Int))/\((List.replicate
 (↑t1.length:Int).toNat (0:Rat)).length<=aB->∃(x0:Nat),((M=M/\is=is/\ptL M is b true=ptL M is b true/\ptL M is b false=ptL M is b false /\
 (↑(List.replicate (↑t1.length:Int).toNat (0:Rat)).length:Int)=(↑(aps M):Int)/\(0:Int)=(x0:Int))/\List.replicate (↑t1.length:Int).toNat (0:Rat) =
 aA (aps M) λ(j:Nat)=>if j<x0 then ptS M is b true M.length j-ptS M is b false M.length j else (0:Rat))/\x0<=aps M/\∀(x:Nat),x<=aps M->bif
 decide ((x:Int)<(↑(aps M):Int)) then ((0:Int)<=(x:Int)/\(x:Int)<(↑t1.length:Int))/\((0:Int)<=(x:Int)/\(x:Int)<(↑t2.length:Int)) /\
 (Sq BQ (t1.getD (x:Int).toNat (0:Rat))/\Sq BQ (t2.getD (x:Int).toNat (0:Rat)))/\((0:Int)<=(x:Int)/\(x:Int)<(↑(aA (aps M) λ(j:Nat)=>if j
 < x then ptS M is b true M.length j-ptS M is b false M.length j else (0:Rat)).length:Int))/\(x:Int).toNat<(aA (aps M) λ(j:Nat)=>if j<x then ptS M
 is b true M.length j-ptS M is b false M.length j else (0:Rat)).length/\ax ((x:Int)+(1:Int))/\∃(x':Nat),((M=M/\is=is/\ptL M is b true=ptL M is b
 true/\ptL M is b false=ptL M is b false/\(↑(aps M):Int)=(↑(aps M):Int)/\(x:Int)+(1:Int)=(x':Int))/\(aA (aps M) λ(j:Nat)=>if j<x
 then ptS M is b true M.length j-ptS M is b false M.length j else (0:Rat)).set (x:Int).toNat (t1.getD (x:Int).toNat (0:Rat)-t2.getD (x:Int).toNat (0 :
 Rat))=aA (aps M) λ(j:Nat)=>if j<x' then ptS M is b true M.length j-ptS M is b false M.length j else (0:Rat))/\x'<=aps M/\aps M-x'<aps M-x
 else ((aA (aps M) λ(j:Nat)=>if j<x then ptS M is b true M.length j-ptS M is b false M.length j else (0:Rat)).length=t1.length/\lM (aA (aps M) fun
 (j:Nat)=>if j<x then ptS M is b true M.length j-ptS M is b false M.length j else (0:Rat)) t1)/\((aA (aps M) λ(j:Nat)=>if j<x then ptS M is b true
 M.length j-ptS M is b false M.length j else (0:Rat)).length=t2.length/\lM (aA (aps M) λ(j:Nat)=>if j<x then ptS M is b true M.length j-ptS M is b
 false M.length j else (0:Rat)) t2)/\(M.length<=aB->∃(x0:Nat),((is=is/\(aA (aps M) λ(j:Nat)=>if j<x then ptS M is b true M.length j-ptS M is b
 false M.length j else (0:Rat))=wyL M is b/\M=M/\(↑M.length:Int)=(↑M.length:Int)/\(0:Int)=(x0:Int))/\dW (aA (aps M) λ(j:Nat)=>if j<x
 then ptS M is b true M.length j-ptS M is b false M.length j else (0:Rat)) t1=dW (wyL M is b) t1/\dW (aA (aps M) λ(j:Nat)=>if j<x then ptS M is b
 true M.length j-ptS M is b false M.length j else (0:Rat)) t2=dW (wyL M is b) t2)/\(x0<=M.length/\∀(j:Nat),j<x0->aGr M is b j=false)/\∀(x:Nat),
 let u1:=M.getD (x:Int).toNat [];(x<=M.length/\∀(j:Nat),j<x->aGr M is b j=false)->bif decide ((x:Int)<(↑M.length:Int)) then ((0:Int)<=(↑x :
 Int)/\(x:Int)<(↑M.length:Int))/\((wyL M is b).length=u1.length/\lM (wyL M is b) u1)/\((0:Int)<=(x:Int)/\(x:Int)<(↑is.length:Int))/\bif
 is.getD (x:Int).toNat false then (Sq BQ (dW (wyL M is b) u1)/\Sq BQ (dW (wyL M is b) t1))/\bif decide (fS (dW (wyL M is b) u1) (dW (wyL M is b) t1)<(0 :
 Int)) then (x:Int)=aL1 M is b else aMy b M is x else aMy b M is x else (-1:Int)=aL1 M is b)))
theorem aWm (b:List Rat) (M:List (List Rat)) (is:List Bool):aw LJ2 [] (aWx b M is) Tryz.f97 (.k (.int .i64) (aL1 M is b)) [.k (.list .q) b,.k (.list (.list .q)) M,.k (.list .bool) is]=aRq b M is:=by kernel_rfl
theorem aWn (b:List Rat) (M:List (List Rat)) (is:List Bool) (hg:MgG M is b):aRq b M is:=by
 obtain⟨m1,m2,m3⟩:=ba hg.right;have h3:=hg.w3;have h24:=hg.n24;have hl:=hg.len;have lt:=aQP M is b true;have lf:=aQP M is b false;have hpt:∀t j,Sq BQ (ptS M is b t M.length j):=λt j=>(hg.pt (bF _) t j).le (by unfold BQ;omega);have hd:∀t,Sq BQ (dW (wyL M is b) (ptL M is b t)):=λt=>(aVi hg.sw (hg.sp t) hg.lw (by omega)).le (by unfold BQ;omega);have hr:∀i,Sq BQ (dW (wyL M is b) (M.getD i [])):=λi=>(aVi hg.sw (hg.sM i) hg.lw (by omega)).le (by unfold BQ;omega);unfold aRq;dsimp only;rw[lt,lf];refine⟨hg,λ_=>⟨⟨by omega,by omega,by omega⟩,λ_=>⟨0,⟨⟨rfl,rfl,rfl,rfl,?_,rfl⟩,?_⟩,fi _,λi hi=>aH (λh=>?_) λh=>?_⟩⟩⟩
 ·rw[ux];rfl
 ·exact(iO _ _).trans (bE λj _=>(aI (ia j)).symm)
 ·have hi':i<aps M:=by omega
  rw[show((i:Nat):Int).toNat=i from rfl,aUo true hi',aUo false hi',mX,mY hi'];refine⟨⟨by omega,h⟩,⟨by omega,h⟩,⟨hpt _ _,hpt _ _⟩,⟨by omega,h⟩,hi',by unfold ax;omega,i+1,⟨⟨rfl,rfl,rfl,rfl,rfl,rfl⟩,bE λt _=>?_⟩,by omega,by omega⟩;by_cases e:t=i
  ·rw[aV e,aV (by omega),e]
  ·rw[aI e];by_cases e2:t<i
   ·rw[aV e2,aV (by omega)]
   ·rw[aI e2,aI (by omega)]
 ·have e:(aA (aps M) λj=>if j<i then ptS M is b true M.length j-ptS M is b false M.length j else 0)=wyL M is b:=bE λj hj=>aV (by omega);rw[e];refine⟨⟨aVh ..,aSg hg.sw (hg.sp _) hg.lw (by omega)⟩,⟨aVh ..,aSg hg.sw (hg.sp _) hg.lw (by omega)⟩,λ_=>⟨0,⟨⟨rfl,rfl,rfl,rfl,rfl⟩,rfl,rfl⟩,⟨fi _,λj hj=>absurd hj (ia j)⟩,λk ⟨hk,bB⟩=>aH (λh=>?_) λh=>(aXz λj hj=>bB j (by omega)).symm⟩⟩;have sF:k<M.length:=by omega
  have nT:aGr M is b k=false->∀j,j<k+1->aGr M is b j=false:=λh5 j hj=>by
   rcases cM j k with h4 | h4
   ·exact bB j h4
   ·rw[show j=k by omega];exact h5
  refine⟨⟨by omega,h⟩,⟨by rw[aVh];exact(m3 k sF).symm,aSg hg.sw (hg.sM _) hg.lw (by omega)⟩,⟨by omega,by omega⟩,?_⟩;unfold aMy;rw[show is.getD ((k:Nat):Int).toNat false=ub is k from rfl,show M.getD ((k:Nat):Int).toNat []=M.getD k [] from rfl]
  cases e:ub is k with
  | true=>refine⟨⟨hr k,hd true⟩,aH (λh2=>(aWN sF bB (by unfold aGr;rw[aV e];exact kx (aUR.1 h2))).symm) λh2=>⟨⟨by omega,by omega⟩,?_⟩⟩;rw[show(!true)=false from rfl,qY];exact⟨by unfold ax;omega,k+1,⟨⟨rfl,rfl,rfl,rfl,rfl⟩,rfl,rfl⟩,⟨sF,nT (by unfold aGr;rw[aV e];exact eJ λh3=>h2 (aUR.2 h3))⟩,by omega⟩
  | false=>
   refine⟨⟨by omega,by omega⟩,?_⟩;rw[show(!false)=true from rfl,iQ];have en:¬ub is k=true:=by rw[e];decide
   exact⟨⟨hr k,hd false⟩,aH (λh2=>(aWN sF bB (by unfold aGr;rw[aI en];exact kx (aWO.1 h2))).symm) λh2=>⟨by unfold ax;omega,k+1,⟨⟨rfl,rfl,rfl,rfl,rfl⟩,rfl,rfl⟩,⟨sF,nT (by unfold aGr;rw[aI en];exact eJ λh3=>h2 (aWO.2 h3))⟩,by omega⟩⟩
theorem aWo:aqJ (cfg []) aVN:=cf aV0 bp Tryz.func97 λa _ _ _ hc hg hf=>by change aRp a=_ at hc;unfold aRp at hc;split at hc<;>cases hc;cases aY (aWm _ _ _) (aWn _ _ _ hg);exact⟨rfl,by kernel_rfl,_,by assumption⟩
end Go.Proofs.YtlijkeolpmgioaaGreatDoor.AM
namespace Go.Proofs.YtlijkeolpmgioaaGreatDoor.AM
open Go.RowKit
variable {w:Nat} {v:Nat->Nat->Rat} {s:Nat->Bool} {r:Nat->Nat} {m:Nat}
def kkP (w:Nat) (v:Nat->Nat->Rat) (s:Nat->Bool) (r:Nat->Nat) (m i a c:Nat):Rat:=if a<m then (if a<i then kkF w v s r m a c else 0) else if c<i then kkF w v s r m a c else 0
def kkQ (w:Nat) (v:Nat->Nat->Rat) (s:Nat->Bool) (r:Nat->Nat) (m i k a c:Nat):Rat:=if a=i/\c<k then gmM w v (r i) (r c) else kkP w v s r m i a c
theorem aW0 (a c:Nat):(0:Rat)=kkP w v s r m 0 a c:=by unfold kkP;rw[aI (ia a),aI (ia c)];split<;>rfl
theorem aW1 (i a c:Nat):kkP w v s r m i a c=kkQ w v s r m i 0 a c:=(aI λh=>ia c h.2).symm
theorem aWs (i k a c:Nat):(if a=i/\c=k then gmM w v (r i) (r k) else kkQ w v s r m i k a c)=kkQ w v s r m i (k+1) a c:=by
 unfold kkQ;by_cases h:a=i
 ·by_cases h2:c=k
  ·rw[aV ⟨h,h2⟩,aV ⟨h,by omega⟩,h2]
  ·rw[aI λe=>h2 e.2];by_cases h3:c<k
   ·rw[aV ⟨h,h3⟩,aV ⟨h,by omega⟩]
   ·rw[aI λe=>h3 e.2,aI λe=>h3 (by have:=e.2;omega)]
 ·rw[aI λe=>h e.1,aI λe=>h e.1,aI λe=>h e.1]
theorem aW2 {i a c:Nat} (hi:i<m):(if a=m+sd1 (s (r i))/\c=i then 1 else if a=i/\c=m+sd1 (s (r i)) then -1 else kkQ w v s r m i m a c)=kkP w v s r m (i+1) a c:=by
 unfold kkQ kkP;by_cases ha:a<m
 ·rw[aI λe=>by have:=e.1;omega,aV ha,aV ha];by_cases h:a=i
  ·subst h;rw[aI (yq a),aV (tS a)];unfold kkF;rw[aV ha];by_cases hc:c<m
   ·rw[aI λe=>by have:=e.2;omega,aV ⟨rfl,hc⟩,aV hc]
   ·rw[aI hc,aI (λe=>hc e.2:¬(a=a/\c<m))];by_cases h2:c=m+sd1 (s (r a))
    ·rw[aV ⟨rfl,h2⟩,aV h2]
    ·rw[aI λe=>h2 e.2,aI h2]
  ·rw[aI λe=>h e.1,aI λe=>h e.1];by_cases h2:a<i
   ·rw[aV h2,aV (by omega)]
   ·rw[aI h2,aI (by omega)]
 ·rw[aI ha,aI ha,aI (λe=>by have:=e.1;omega:¬(a=i/\c=m+sd1 (s (r i)))),aI (λe=>by have:=e.1;omega:¬(a=i/\c<m))];by_cases h:c=i
  ·subst h;rw[aI (yq c),aV (tS c)];unfold kkF;rw[aI ha,aV hi];by_cases h2:a=m+sd1 (s (r c))
   ·rw[aV ⟨h2,rfl⟩,aV h2]
   ·rw[aI λe=>h2 e.1,aI h2]
  ·rw[aI λe=>h e.2];by_cases h2:c<i
   ·rw[aV h2,aV (by omega)]
   ·rw[aI h2,aI (by omega)]
theorem aXj (a c:Nat):kkP w v s r m m a c=kkF w v s r m a c:=by
 unfold kkP;by_cases ha:a<m
 ·rw[aV ha,aV ha]
 ·rw[aI ha];by_cases hc:c<m
  ·rw[aV hc]
  ·rw[aI hc];unfold kkF;rw[aI ha,aI hc]
theorem aXk (m:Nat):((List.replicate (m+2) (0:Rat)).set m 1).set (m+1) 1=aA (m+2) (kkB m):=by
 rw[iO,mY (by omega),mY (by omega)];refine bE λj hj=>?_;unfold kkB;by_cases h1:j=m+1
 ·rw[aV h1,aI (by omega)]
 ·rw[aI h1];by_cases h2:j=m
  ·rw[aV h2,aI (by omega)]
  ·rw[aI h2,aV (by omega)]
theorem aWG {n m:Nat} {A B:Nat->Nat->Rat} {b c:Nat->Rat} (hA:∀i j,i<n->j<m->A i j=B i j) (hb:∀i,i<n->b i=c i):ajj n m A b=ajj n m B c/\∀j,ak8 n m A b j=ak8 n m B c j:=by
 obtain⟨h1,h2⟩:=aed (n:=n) (m:=m+1) (F:=abD m A b) (G:=abD m B c) (λi j hi hj=>by
  unfold abD;by_cases h:j<m
  ·rw[aV h,aV h,hA i j hi h]
  ·rw[aI h,aI h,hb i hi]) (m+1) (bF _)
 refine⟨by unfold ajj;rw[h1],λj=>?_⟩;unfold ak8 akD;rw[h1];by_cases h:(rr n (abD m B c) (m+1)).2.idxOf j<(rr n (abD m B c) (m+1)).2.length
 ·rw[aV h,aV h];exact h2 _ _ (gA h (acG _ _ _)) (tS m)
 ·rw[aI h,aI h]
theorem aXl {n:Nat} {U:Nat->Bool} (hi:aBb n w v s λi=>U i=true) (hs:∀t,∃i,i<n/\s i=t/\U i=true) :
  okS (aG (rkU U n+2) (rkU U n+2) (kkF w v s (rU U n) (rkU U n))) (aA (rkU U n+2) (kkB (rkU U n)))=true /\
  abL (aG (rkU U n+2) (rkU U n+2) (kkF w v s (rU U n) (rkU U n))) (aA (rkU U n+2) (kkB (rkU U n)))=true /\
  aer (aG (rkU U n+2) (rkU U n+2) (kkF w v s (rU U n) (rkU U n))) (aA (rkU U n+2) (kkB (rkU U n)))=aA (rkU U n+2) (ak8 (rkU U n+2) (rkU U n+2) (kkF w v s (rU U n) (rkU U n)) (kkB (rkU U n))):=by
 have h0:=(aOt hi hs).1
 have hN:0<rkU U n+2:=De _
 generalize rkU U n+2=N at *
 have hc:aps (aG N N (kkF w v s (rU U n) (rkU U n)))=N:=tM hN _
 obtain⟨h1,h2⟩:=aWG (n:=N) (m:=N) (A:=el (aG N N (kkF w v s (rU U n) (rkU U n)))) (B:=kkF w v s (rU U n) (rkU U n)) (b:=λi=>(aA N (kkB (rkU U n))).getD i 0) (c:=kkB (rkU U n)) (λi j hi hj=>Ny hi hj) (λi hi=>fW hi 0)
 refine⟨?_,?_,?_⟩
 ·unfold okS
  rw[Lh hN hN,mkM_len,mX,kx rfl];rfl
 ·unfold abL
  rw[hc,mkM_len,h1];exact h0
 ·unfold aer
  rw[hc,mkM_len]
  exact bE λj _=>h2 j
end Go.Proofs.YtlijkeolpmgioaaGreatDoor.AM
namespace Go.Proofs.YtlijkeolpmgioaaGreatDoor.AM
open Go.RowKit
theorem aO0 {x:Rat}:x.num.sign<0↔x<0:=⟨λh=>Rat.not_le.1 λh3=>absurd (C1.1 h) (Mt.2 (G0.2 h3)),λh=>C1.2 (Int.not_le.1 λh4=>absurd (G0.1 h4) (Rat.not_le.2 h))⟩
theorem aUp {x:Rat}:0<x.num.sign↔0<x:=by
 rw[Int.sign_pos_iff];constructor
 ·intro h;refine Rat.not_le.1 λh3=>?_;have h4:0 <= -x:=by grind
  have:=G0.2 h4;rw[Rat.neg_num] at this;omega
 ·intro h;refine Int.not_le.1 λh3=>?_;have h4:0<=(-x).num:=by rw[Rat.neg_num];omega
  have:=G0.1 h4;grind
def a5y:List AV->Option (Option Prop×AV×List Ob)
 | [.k .q x,.k .q y]=>some (some (Sq BQ x/\Sq BQ y),.k .q (if y<x then y else x),[])
 | _=>none
def aXm:az:=⟨121,false,a5y⟩
def aXn (x y:Rat):bk:=⟨nU,nL,nR,nU⟩
def aXo (x y:Rat):Prop:=(Sq BQ y/\Sq BQ x)/\bif decide (fS y x<(0:Int)) then y=if y<x then y else x else x=if y<x then y else x
theorem aW4 (x y:Rat):aw LJ1 [] (aXn x y) Tryz.f121 (.k .q (if y<x then y else x)) [.k .q x,.k .q y]=aXo x y:=by kernel_rfl
theorem aW5 (x y:Rat) (hg:Sq BQ x/\Sq BQ y):aXo x y:=by obtain⟨h1,h2⟩:=hg;exact⟨⟨h2,h1⟩,aH (λh=>(aV (aUR.1 h)).symm) λh=>(aI λh3=>h (aUR.2 h3)).symm⟩
theorem aW6:aqJ (cfg []) aXm:=cf aPi bp Tryz.func121 λa _ _ _ hc hg hf=>by change a5y a=_ at hc;unfold a5y at hc;split at hc<;>cases hc;cases aY (aW4 _ _) (aW5 _ _ hg);exact⟨rfl,by kernel_rfl,_,by assumption⟩
structure TwG (b t:List Rat) (us:List Bool):Prop where
 lt:t.length=b.length
 lu:us.length=b.length
 n24:b.length<=24
 nn:∀i,0<=cw b i
 sb:SL 1000000 b
 st:SL 1000 t
noncomputable def LJ3:List az:=aXm::LJ1
theorem aV2:bd LJ3:=⟨aW6,aPi⟩
def a2O:List AV->Ob->Ob->Option (Option Prop×AV×Ob×Ob)
 | [.own 1000000 0 5,.k (.list .q) t,.own 1000001 0 1],.arr 55 .q b,.arr 4 .bool us=>some (some (TwG b t us),.k .bool (decide (twX b t us=1)),.arr 55 .q (twB b t us),.arr 4 .bool (twU b t us))
 | _,_,_=>none
def aRC:awe:=⟨99,0,2,a2O⟩
def aTC (b t:List Rat) (us:List Bool):bk:=⟨λkey_=>match key_ with | 6=>18 | 13=>17 | 16=>2 | _=>0,λkey_=>match key_ with
 | 3=>some (⟨Nat,λi=>[(0,.own 1000000 0 5),(1,.k (.list .q) t),(2,.own 1000001 0 1),(7,.pt 7 0 5 0 0),(14,.k (.int .i64) ((b.length:Nat):Int)),(15,.k (.int .i64) ((i:Nat):Int))],
 λi=>[(7,.box 55 (.k .q (stW (ub us) (cw b) (cw t) i))),(1000000,.arr 55 .q b),(1000001,.arr 4 .bool us)],
 λ_ i=>i<=b.length,λi=>b.length-i⟩)
 | 10=>some (⟨Nat,λi=>[(0,.own 1000000 0 5),(1,.k (.list .q) t),(2,.own 1000001 0 1),(7,.pt 7 0 5 0 0),(52,.k (.int .i64) ((b.length:Nat):Int)),(53,.k (.int .i64) ((i:Nat):Int))],
 λi=>[(7,.box 55 (.k .q (twX b t us))),(1000000,.arr 55 .q (aA b.length λj=>if j<i then nxW (ub us) (cw b) (cw t) (twX b t us) j else cw b j)),(1000001,.arr 4 .bool (aA us.length λj=>if j<i then nuW (ub us) (cw (twB b t us)) j else ub us j))],
 λ_ i=>i<=b.length,λi=>b.length-i⟩) | _=>none,nR,nU⟩
def aN4 (b t:List Rat) (us:List Bool):Prop:=let a2:=(↑b.length:Int);let a3:=twX b t us;let a4:=(↑(1:Int):Rat);let a5:=(↑t.length:Int);
 let t1:=cw (twB b t us);
 ax (1:Int)/\(b.length<=aB->∃(x0:Nat),((t=t/\a2=a2/\(0:Int)=(x0:Int))/\a4=stW (ub us) (cw b) (cw
 t) x0/\b=b/\us=us)/\x0<=b.length/\∀(x:Nat),x<=b.length->bif decide ((x:Int)<a2) then ((0:Int)<=(x:Int)/\(x:Int)<(↑us.length
 : Int))/\(x:Int).toNat<us.length/\bif us.getD (x:Int).toNat false then ((0:Int)<=(x:Int)/\(x:Int)<a5)/\Sq BQ (t.getD (↑x :
 Int).toNat (0:Rat))/\bif decide ((t.getD (x:Int).toNat (0:Rat)).num.sign<(0:Int)) then ((0:Int)<=(x:Int)/\(x:Int)<a2)/\(↑x :
 Int).toNat<b.length/\((0:Int)<=(x:Int)/\(x:Int)<a2)/\(x:Int).toNat<b.length/\((0:Int)<=(x:Int)/\(x:Int)<a5)/\(Sq BQ (b.getD (x:Int).toNat (0:Rat))/\Sq BQ (t.getD (x:Int).toNat (0:Rat)))/\(Sq BQ (b.getD (x:Int).toNat (0:Rat))/\Sq BQ (b.getD (↑x :
 Int).toNat (0:Rat)-t.getD (x:Int).toNat (0:Rat)))/\(Sq BQ (stW (ub us) (cw b) (cw t) x)/\Sq BQ (b.getD (x:Int).toNat (0:Rat)/(b.getD (x:Int).toNat (0
 : Rat)-t.getD (x:Int).toNat (0:Rat))))/\ax ((x:Int)+(1:Int))/\∃(x':Nat),((t=t/\a2=a2/\(x:Int)+(1:Int) =
 (x':Int))/\(if b.getD (x:Int).toNat (0:Rat)/(b.getD (x:Int).toNat (0:Rat)-t.getD (x:Int).toNat (0:Rat))<stW (ub us) (cw b) (cw t) x then b.getD
 (x:Int).toNat (0:Rat)/(b.getD (x:Int).toNat (0:Rat)-t.getD (x:Int).toNat (0:Rat)) else stW (ub us) (cw b) (cw t) x)=stW (ub us) (cw b) (cw t) x'/\b
 = b/\us=us)/\x'<=b.length/\b.length-x'<b.length-x else ax ((x:Int)+(1:Int))/\∃(x':Nat),((t=t/\a2=a2/\(↑x :
 Int)+(1:Int)=(x':Int))/\stW (ub us) (cw b) (cw t) x=stW (ub us) (cw b) (cw t) x'/\b=b/\us=us)/\x'<=b.length/\b.length-x'<b.length-x else ax
 ((x:Int)+(1:Int))/\∃(x':Nat),((t=t/\a2=a2/\(x:Int)+(1:Int)=(x':Int))/\stW (ub us) (cw b) (cw t) x=stW (ub
 us) (cw b) (cw t) x'/\b=b/\us=us)/\x'<=b.length/\b.length-x'<b.length-x else b.length<=aB->∃(a0:Nat),((t=t/\a2=a2
 /\ (0:Int)=(a0:Int))/\stW (ub us) (cw b) (cw t) x=twX b t us/\(b=aA b.length λ(j:Nat)=>if j<a0 then nxW (ub us) (cw b) (cw t) a3 j else cw
 b j)/\us=aA us.length λ(j:Nat)=>if j<a0 then nuW (ub us) t1 j else ub us j)/\a0<=b.length/\∀(a1:Nat),
 let u6:=(↑(aA us.length λ(j:Nat)=>if j<a1 then nuW (ub us) t1 j else ub us j).length:Int);
 let u5:=(aA b.length λ(j:Nat)=>if j<a1 then nxW (ub us) (cw b) (cw t) a3 j else cw b j).getD (a1:Int).toNat (0:Rat);
 let u3:=(↑(aA b.length λ(j:Nat)=>if j<a1 then nxW (ub us) (cw b) (cw t) a3 j else cw b j).length:Int);
 let u2:=t.getD (a1:Int).toNat (0:Rat)-(aA b.length λ(j:Nat)=>if j<a1 then nxW (ub us) (cw b) (cw t) a3 j else cw b j).getD (a1:Int).toNat (0:Rat);
 let u4:=(aA b.length λ(j:Nat)=>if j<a1 then nxW (ub us) (cw b) (cw t) a3 j else cw b j).getD (a1:Int).toNat (0:Rat)+twX b t us*u2;
 let u1:=(aA b.length λ(j:Nat)=>if j<a1 then nxW (ub us) (cw b) (cw t) a3 j else cw b j).set (a1:Int).toNat u4;a1<=b.length->bif decide ((↑a1 :
 Int)<a2) then ((0:Int)<=(a1:Int)/\(a1:Int)<u6)/\(a1:Int).toNat<(aA us.length λ(j:Nat)=>if j<a1 then nuW (ub us) t1 j else ub us
 j).length/\bif (aA us.length λ(j:Nat)=>if j<a1 then nuW (ub us) t1 j else ub us j).getD (a1:Int).toNat false then ((0:Int)<=(a1:Int)/\(a1:Int)<u3) /\
 (a1:Int).toNat<(aA b.length λ(j:Nat)=>if j<a1 then nxW (ub us) (cw b) (cw t) a3 j else cw b j).length/\((0:Int)<=(a1:Int)/\(a1:Int) <
 a5)/\((0:Int)<=(a1:Int)/\(a1:Int)<u3)/\(a1:Int).toNat<(aA b.length λ(j:Nat)=>if j<a1 then nxW (ub us) (cw b) (cw t) a3 j
 else cw b j).length/\(Sq BQ (t.getD (a1:Int).toNat (0:Rat))/\Sq BQ u5)/\(Sq BQ a3/\Sq BQ u2)/\(Sq BQ u5/\Sq BQ (twX b t us*u2))/\((0:Int)<=(↑a1 :
 Int)/\(a1:Int)<u3)/\(a1:Int).toNat<(aA b.length λ(j:Nat)=>if j<a1 then nxW (ub us) (cw b) (cw t) a3 j else cw b j).length/\((0:Int)<=(↑a1
 : Int)/\(a1:Int)<(↑u1.length:Int))/\(a1:Int).toNat<u1.length/\Sq BQ (u1.getD (a1:Int).toNat (0:Rat))/\((0:Int)<=(a1:Int)/\(a1:Int)<u6)/\(↑a1 :
 Int).toNat<(aA us.length λ(j:Nat)=>if j<a1 then nuW (ub us) t1 j else ub us j).length/\ax ((a1:Int)+(1:Int))/\∃(x':Nat),((t=t/\a2=a2/\(a1:Int)+(1:Int)=(x':Int))/\twX b t us=twX b t us/\((aA b.length λ(j:Nat)=>if j<a1 then nxW (ub us) (cw b) (cw t) a3 j else cw b j).set (a1:Int).toNat u4=aA b.length λ(j:Nat)=>if j<x' then nxW (ub us) (cw b) (cw t) a3 j else cw b j)/\(aA us.length fun
 (j:Nat)=>if j<a1 then nuW (ub us) t1 j else ub us j).set (a1:Int).toNat (decide ((0:Int)<(u1.getD (a1:Int).toNat (0:Rat)).num.sign))=aA us.length λ(j
 : Nat)=>if j<x' then nuW (ub us) t1 j else ub us j)/\x'<=b.length/\b.length-x'<b.length-a1 else ax ((a1:Int)+(1:Int))/\∃(x':Nat),((t=t /\
 a2=a2/\(a1:Int)+(1:Int)=(x':Int))/\twX b t us=twX b t us/\((aA b.length λ(j:Nat)=>if j<a1 then nxW (ub us) (cw b)
 (cw t) a3 j else cw b j)=aA b.length λ(j:Nat)=>if j<x' then nxW (ub us) (cw b) (cw t) a3 j else cw b j)/\(aA us.length λ(j:Nat)=>
 if j<a1 then nuW (ub us) t1 j else ub us j)=aA us.length λ(j:Nat)=>if j<x' then nuW (ub us) t1 j else ub us j)/\x'<=b.length/\b.length-x'<b.length-a1
 else ax (1:Int)/\(Sq BQ a3/\Sq BQ a4)/\decide (fS a3 a4=(0:Int))=decide (twX b t us=(1:Rat))/\(aA
 b.length λ(j:Nat)=>if j<a1 then nxW (ub us) (cw b) (cw t) a3 j else cw b j)=twB b t us/\(aA us.length λ(j:Nat)=>if j<a1 then nuW (ub us) t1
 j else ub us j)=twU b t us)
theorem aSq (b t:List Rat) (us:List Bool) (gh_:Nat->Value):awp (acp (cfg LJ3 []) 3 gh_) (aTC b t us) Tryz.f99.ntmps (Tryz.f99.body.getD .skip) (aRN Tryz.f99.results.toList (.k .bool (decide (twX b t us=1))) 0 5 2 1 (.arr 55 .q (twB b t us)) (.arr 4 .bool (twU b t us))) ⟨aEE 0 [.own 1000000 0 5,.k (.list .q) t,.own 1000001 0 1],[(dj,.arr 55 .q b),(azD,.arr 4 .bool us)]⟩=aN4 b t us:=by kernel_rfl
theorem aSr (b t:List Rat) (us:List Bool) (hg:TwG b t us):aN4 b t us:=by
 have h24:=hg.n24;have aU:=hg.lt;have hlu:=hg.lu;have hq:∀i,cw t i<0->Sq 2002000 (cw b i/(cw b i-cw t i)):=λi h=>((hg.sb i).div ((hg.sb i).sub (hg.st i)) (by have:=hg.nn i;show cw b i-cw t i≠0;grind)).le (by omega);have hW:∀i,Sq 2002000 (stW (ub us) (cw b) (cw t) i):=λi=>by
  induction i with
  | zero=>exact Sq.one (by omega)
  | succ k ih=>
   unfold stW;split
   ·rename_i h;split
    ·exact hq k h.2
    ·exact ih
   ·exact ih
 have hb:∀i,Sq BQ (cw b i):=λi=>(hg.sb i).le (by unfold BQ;omega);have ht:∀i,Sq BQ (cw t i):=λi=>(hg.st i).le (by unfold BQ;omega);have hWq:∀i,Sq BQ (stW (ub us) (cw b) (cw t) i):=λi=>(hW i).le (by unfold BQ;omega);unfold aN4;dsimp only;refine⟨by unfold ax;omega,λ_=>⟨0,⟨⟨rfl,rfl,rfl⟩,rfl,rfl,rfl⟩,fi _,λi hi=>aH (λh=>?_) λh _=>?_⟩⟩
 ·have hi':i<b.length:=by omega
  have hiu:i<us.length:=by omega
  rw[show us.getD ((i:Nat):Int).toNat false=ub us i from rfl,show b.getD ((i:Nat):Int).toNat 0=cw b i from rfl,show t.getD ((i:Nat):Int).toNat 0=cw t i from rfl];refine⟨⟨by omega,by omega⟩,hiu,?_⟩
  cases e:ub us i with
  | true=>
   refine⟨⟨by omega,by omega⟩,ht i,aH (λh2=>?_) λh2=>?_⟩
   ·have hn:cw t i<0:=aO0.1 h2;exact⟨⟨by omega,h⟩,hi',⟨by omega,h⟩,hi',⟨by omega,by omega⟩,⟨hb i,ht i⟩,⟨hb i,((hg.sb i).sub (hg.st i)).le (by unfold BQ;omega)⟩,⟨hWq i,(hq i hn).le (by unfold BQ;omega)⟩,by unfold ax;omega,i+1,⟨⟨rfl,rfl,rfl⟩,(aV ⟨e,hn⟩).symm,rfl,rfl⟩,hi',by omega⟩
   ·exact⟨by unfold ax;omega,i+1,⟨⟨rfl,rfl,rfl⟩,(aI λh3=>h2 (aO0.2 h3.2)).symm,rfl,rfl⟩,hi',by omega⟩
  | false=>exact⟨by unfold ax;omega,i+1,⟨⟨rfl,rfl,rfl⟩,(aI λh3=>by rw[e] at h3;cases h3.1).symm,rfl,rfl⟩,hi',by omega⟩
 ·have e:i=b.length:=by omega
  subst e;refine⟨0,⟨⟨rfl,rfl,rfl⟩,rfl,vt 0 rfl λj _=>(aI (ia j)).symm,vt false rfl λj _=>(aI (ia j)).symm⟩,fi _,λi hi=>aH (λh=>?_) λh=>?_⟩
  ·have hi':i<b.length:=by omega
   have hiu:i<us.length:=by omega
   rw[show((i:Nat):Int).toNat=i from rfl,fW hiu,fW hi',aI (yq i),aI (yq i),mY hi',mY hiu,fW hi',aV rfl,show t.getD i 0=cw t i from rfl];simp only[mX];refine⟨⟨by omega,by omega⟩,hiu,?_⟩;have hX:Sq 2002000 (twX b t us):=hW _;have hXq:Sq BQ (twX b t us):=hWq _;have d1:=(hg.st i).sub (hg.sb i);have d2:=hX.mul d1;have d3:=(hg.sb i).add d2;have ec:=aSc (b:=b) (t:=t) (us:=us) hlu
   cases e:ub us i with
   | true=>
    have ex:nxW (ub us) (cw b) (cw t) (twX b t us) i=cw b i+twX b t us*(cw t i-cw b i):=aV e;refine⟨⟨by omega,h⟩,hi',⟨by omega,by omega⟩,⟨by omega,h⟩,hi',⟨ht i,hb i⟩,⟨hXq,d1.le (by unfold BQ;omega)⟩,⟨hb i,d2.le (by unfold BQ;omega)⟩,⟨by omega,h⟩,hi',⟨by omega,h⟩,hi',d3.le (by unfold BQ;omega),⟨by omega,by omega⟩,hiu,by unfold ax;omega,i+1,⟨⟨True.intro,True.intro,rfl⟩,True.intro,bE λj _=>?_,bE λj _=>?_⟩,hi',by omega⟩
    ·by_cases e2:j=i
     ·rw[aV e2,aV (by omega),e2,ex]
     ·rw[aI e2];by_cases e3:j<i
      ·rw[aV e3,aV (by omega)]
      ·rw[aI e3,aI (by omega)]
    ·by_cases e2:j=i
     ·rw[aV e2,aV (by omega),e2];unfold nuW;rw[aV e,ec,ex];exact yw.2 aUp
     ·rw[aI e2];by_cases e3:j<i
      ·rw[aV e3,aV (by omega)]
      ·rw[aI e3,aI (by omega)]
   | false=>
    have en:¬ub us i=true:=by rw[e];decide
    refine⟨by unfold ax;omega,i+1,⟨⟨True.intro,True.intro,rfl⟩,True.intro,bE λj _=>?_,bE λj _=>?_⟩,hi',by omega⟩
    ·by_cases e2:j=i
     ·rw[aI (by omega),aV (by omega),e2];exact(aI en).symm
     ·by_cases e3:j<i
      ·rw[aV e3,aV (by omega)]
      ·rw[aI e3,aI (by omega)]
    ·by_cases e2:j=i
     ·rw[aI (by omega),aV (by omega),e2];exact(aI en).symm
     ·by_cases e3:j<i
      ·rw[aV e3,aV (by omega)]
      ·rw[aI e3,aI (by omega)]
  ·exact⟨by unfold ax;omega,⟨hWq _,Sq.one (by unfold BQ;omega)⟩,yw.2 gz,bE λj hj=>aV (by omega),bE λj hj=>aV (by omega)⟩
theorem aSs:aDL (cfg []) aRC:=aW3 aV2 bp Tryz.func99 (by kernel_rfl) (by kernel_rfl) λargs ob bC g r ob' axe hc hg hf=>by
 replace hc:a2O args ob bC=some (g,r,ob',axe):=hc;unfold a2O at hc;split at hc
 ·injection hc with hc;injection hc with h1 hc;injection hc with h2 hc;injection hc with h3 h4;subst h1;subst h2;subst h3;subst h4;have hv:=aSr _ _ _ hg;exact⟨by kernel_rfl,5,1,3,_,rfl,rfl,rfl,rfl,rfl,rfl,λgh=>by cases aY (aSq _ _ _ gh) hv;assumption⟩
 ·cases hc
structure MgR (M:List (List Rat)) (is us:List Bool):Prop where
 right:as3 M=true
 len:is.length=M.length
 n24:M.length<=24
 w3:aps M<=3
 sM:∀i,SL 256 (M.getD i [])
 lu:us.length=M.length
 ind:aBb M.length (aps M) (vMg M is) (ub is) λi=>ub us i=true
 two:∀t,∃i,i<M.length/\ub is i=t/\ub us i=true
def zF2 (_ _:Nat):Rat:=0
def rkM (M:List (List Rat)) (us:List Bool):Nat:=rkU (ub us) M.length
theorem aTD (f:Nat->Rat) (n:Nat):apV (λj=> -(f j)) n = -(apV f n):=by
 induction n with
 | zero=>show(0:Rat) = -0;grind
 | succ n ih=>
  show apV (λj=> -(f j)) n + -(f n) = -(apV f n+f n)
  rw[ih];grind
theorem aV4 {M:List (List Rat)} {is:List Bool} {i k:Nat} (hi:(M.getD i []).length=aps M):gmM (aps M) (vMg M is) i k=if ub is i=ub is k then dW (M.getD i []) (M.getD k []) else -dW (M.getD i []) (M.getD k []):=by
 have e:dW (M.getD i []) (M.getD k [])=apV (λj=>el M i j*el M k j) (aps M):=by unfold dW;rw[hi];rfl
 rw[e];unfold gmM ipW vMg
 cases h1:ub is i with
 | true=>
  cases h2:ub is k with
  | true=>rw[aV rfl];exact uv λj _=>by rw[aV rfl,aV rfl]
  | false=>rw[aI (by decide),<-aTD];exact uv λj _=>by rw[aV rfl,aI (by decide)];grind
 | false=>
  cases h2:ub is k with
  | true=>rw[aI (by decide),<-aTD];exact uv λj _=>by rw[aI (by decide),aV rfl];grind
  | false=>rw[aV rfl];exact uv λj _=>by rw[aI (by decide),aI (by decide)];grind
theorem MgR.few {M:List (List Rat)} {is us:List Bool} (h:MgR M is us):rkM M us<=5:=by have h1:=aR8 h.ind;have h2:=h.w3;show rkU (ub us) M.length<=5;omega
theorem MgR.kk {M:List (List Rat)} {is us:List Bool} (h:MgR M is us) (a c:Nat):Sq 2000 (kkF (aps M) (vMg M is) (ub is) (rU (ub us) M.length) (rkM M us) a c):=by
 obtain⟨m1,m2,m3⟩:=ba h.right;have z0:Sq 2000 0:=Sq.zero _ (by omega);have z1:Sq 2000 1:=Sq.one (by omega);unfold kkF;by_cases h1:a<rkM M us
 ·rw[aV h1];by_cases h2:c<rkM M us
  ·rw[aV h2];have hr:rU (ub us) M.length a<M.length:=(aQm h1).1;have hl:(M.getD (rU (ub us) M.length a) []).length=aps M:=m3 _ hr;rw[aV4 hl];have hd:Sq 2000 (dW (M.getD (rU (ub us) M.length a) []) (M.getD (rU (ub us) M.length c) [])):=(x4 (h.sM _) (h.sM _)).le (by have:=gU (256+256+1) (show(M.getD (rU (ub us) M.length a) []).length<=3 by rw[hl];exact h.w3);omega);split
   ·exact hd
   ·exact hd.neg
  ·rw[aI h2];split
   ·exact z1.neg
   ·exact z0
 ·rw[aI h1];split
  ·split
   ·exact z1
   ·exact z0
  ·exact z0
theorem MgR.sol {M:List (List Rat)} {is us:List Bool} (h:MgR M is us):aj4 (aG (rkM M us+2) (rkM M us+2) (kkF (aps M) (vMg M is) (ub is) (rU (ub us) M.length) (rkM M us))) (aA (rkM M us+2) (kkB (rkM M us))):=by
 have h5:=h.few;refine⟨2000,by omega,λa=>?_,SL.mk (λc _=>?_) (by omega),?_⟩
 ·by_cases ha:a<rkM M us+2
  ·rw[na ha];exact SL.mk (λc _=>h.kk a c) (by omega)
  ·rw[mZ (by rw[mkM_len];omega)];exact SL.nil (by omega)
 ·unfold kkB;split
  ·exact Sq.zero _ (by omega)
  ·exact Sq.one (by omega)
 ·rw[tM (by omega)];have h6:5^(rkM M us+2+1)<=5^8:=jW (by omega) (by omega);have h7:(5:Nat)^8=390625:=by decide
  unfold BQ;omega
noncomputable def LJ4:List az:=alF::aVm::aa5::V9::[]
theorem aXC:bd LJ4:=⟨akE,aUE,V5,Qc,trivial⟩
noncomputable def a1e:List AV->Option (Option Prop×AV×List Ob)
 | [.k (.list .bool) us,.k (.list (.list .q)) M,.k (.list .bool) is]=>some (some (MgR M is us),.own 0 0 5,[.arr 55 .q (aoQ M.length (aps M) (vMg M is) (ub is) us)])
 | _=>none
noncomputable def aUG:az:=⟨98,false,a1e⟩
noncomputable def aWq (us:List Bool) (M:List (List Rat)) (is:List Bool):bk:=⟨λkey_=>match key_ with | 23=>14 | 24=>8 | 25=>13 | 30=>6 | 31=>6 | _=>0,λkey_=>match key_ with
 | 3=>some (⟨Nat,λi=>[(0,.k (.list .bool) us),(1,.k (.list (.list .q)) M),(2,.k (.list .bool) is),(7,.own 7 0 1),(25,.k (.int .i64) ((M.length:Nat):Int)),(26,.k (.int .i64) ((i:Nat):Int))],
 λi=>[(7,.arr 3 (.int .i64) (K5 (usR (ub us) i)))],
 λ_ i=>i<=M.length,λi=>M.length-i⟩)
 | 12=>some (⟨Nat,λi=>[(1,.k (.list (.list .q)) M),(2,.k (.list .bool) is),(7,.own 7 0 1),(9,.k (.int .i64) ((rkM M us:Nat):Int)),(10,.own 42 0 1),(11,.own 45 0 5),(47,.k (.int .i64) ((rkM M us+2:Nat):Int)),(48,.k (.int .i64) ((i:Nat):Int))],
 λi=>[(7,.arr 3 (.int .i64) (K5 (usR (ub us) M.length))),(42,.bc 43 55 .q (bh (rkM M us+2) i) (bD i (rkM M us+2) zF2)),(45,.arr 55 .q (List.replicate (rkM M us+2) 0))],
 λ_ i=>i<=rkM M us+2,λi=>rkM M us+2-i⟩)
 | 18=>some (⟨Nat,λi=>[(1,.k (.list (.list .q)) M),(2,.k (.list .bool) is),(7,.own 7 0 1),(9,.k (.int .i64) ((rkM M us:Nat):Int)),(10,.own 42 0 1),(11,.own 45 0 5),(67,.own 7 0 1),(68,.k (.int .i64) ((rkM M us:Nat):Int)),(69,.k (.int .i64) ((i:Nat):Int))],
 λi=>[(7,.arr 3 (.int .i64) (K5 (usR (ub us) M.length))),(42,.bc 43 55 .q (bh (rkM M us+2) (rkM M us+2)) (bD (rkM M us+2) (rkM M us+2) (kkP (aps M) (vMg M is) (ub is) (rU (ub us) M.length) (rkM M us) i))),(45,.arr 55 .q (aA (rkM M us+2) (kkB (rkM M us))))],
 λ_ i=>i<=rkM M us,λi=>rkM M us-i⟩)
 | 21=>some (⟨Nat×Nat,λp=>[(1,.k (.list (.list .q)) M),(2,.k (.list .bool) is),(7,.own 7 0 1),(9,.k (.int .i64) ((rkM M us:Nat):Int)),(10,.own 42 0 1),(11,.own 45 0 5),(13,.k (.int .i64) ((p.2:Nat):Int)),(14,.k (.int .i64) ((rU (ub us) M.length p.2:Nat):Int)),(67,.own 7 0 1),(68,.k (.int .i64) ((rkM M us:Nat):Int)),(69,.k (.int .i64) ((p.2:Nat):Int)),(74,.own 7 0 1),(75,.k (.int .i64) ((rkM M us:Nat):Int)),(76,.k (.int .i64) ((p.1:Nat):Int))],
 λp=>[(7,.arr 3 (.int .i64) (K5 (usR (ub us) M.length))),(42,.bc 43 55 .q (bh (rkM M us+2) (rkM M us+2)) (bD (rkM M us+2) (rkM M us+2) (kkQ (aps M) (vMg M is) (ub is) (rU (ub us) M.length) (rkM M us) p.2 p.1))),(45,.arr 55 .q (aA (rkM M us+2) (kkB (rkM M us))))],
 λq p=>p.2=q.2/\p.2<rkM M us/\p.1<=rkM M us,λp=>rkM M us-p.1⟩)
 | 36=>some (⟨Nat,λi=>[(18,.k (.list .q) (aer (aG (rkM M us+2) (rkM M us+2) (kkF (aps M) (vMg M is) (ub is) (rU (ub us) M.length) (rkM M us))) (aA (rkM M us+2) (kkB (rkM M us))))),(21,.own 151 0 5),(152,.own 7 0 1),(153,.k (.int .i64) ((rkM M us:Nat):Int)),(154,.k (.int .i64) ((i:Nat):Int))],
 λi=>[(7,.arr 3 (.int .i64) (K5 (usR (ub us) M.length))),(151,.arr 55 .q (aA M.length λt=>if rkU (ub us) t<i then aOm M.length (aps M) (vMg M is) (ub is) (ub us) t else 0))],
 λ_ i=>i<=rkM M us,λi=>rkM M us-i⟩) | _=>none,nR,nU⟩
def aOk (us:List Bool) (M:List (List Rat)) (is:List Bool):Prop:=let a9:=(↑M.length:Int);let aa:=vMg M is;let ab:=aps M;let ad:=rkM M us;let ae:=(↑(1:Int):Rat);let af:=(↑is.length:Int);
 let t1:=rkM M us+(2:Nat);
 let t2:=(ad:Int);
 let t3:=usR (ub us) M.length;
 let t4:=rU (ub us) M.length;
 let t5:=aG t1 t1 (kkF ab aa (ub is) t4 ad);
 let t6:=t2+(1:Int);
 let t7:=(bh t1 t1).getD t6.toNat (0:Nat);
 let t8:=kkB ad;
 let t9:=(bh t1 t1).getD t2.toNat (0:Nat);
 let t10:=(↑(-1:Int):Rat);
 let t11:=(↑(bh t1 t1).length:Int);
 let t12:=(List.replicate t1 (0:Rat)).set t2.toNat ae;
 let t13:=(↑(K5 t3).length:Int);
 M.length<=aB->∃(x0:Nat),((us=us/\M=M/\is=is/\a9=a9/\(0:Int)=(x0:Int))/\K5 (usR (ub us) x0)=[])/\x0<=M.length
 /\ ∀(x:Nat),x<=M.length->bif decide ((x:Int)<a9) then ((0:Int)<=(x:Int)/\(x:Int)<(↑us.length:Int))/\bif us.getD (x:Int).toNat
 false then (K5 (usR (ub us) x)).length+[(x:Int)].length<=aB/\ax ((x:Int)+(1:Int))/\∃(x':Nat),((us=us/\M=M/\is=is/\a9 =
 a9/\(x:Int)+(1:Int)=(x':Int))/\(K5 (usR (ub us) x)).append [(x:Int)]=K5 (usR (ub us) x'))/\x'<=M.length/\M.length-x'<M.length -
 x else ax ((x:Int)+(1:Int))/\∃(x':Nat),((us=us/\M=M/\is=is/\a9=a9/\(x:Int)+(1:Int)=(x':Int))/\K5
 (usR (ub us) x)=K5 (usR (ub us) x'))/\x'<=M.length/\M.length-x'<M.length-x else (K5 (usR (ub us) x)).length<=aB->ax ((↑(K5 (usR (ub us) x)).length :
 Int)+(2:Int))/\((0:Int)<=(↑(K5 (usR (ub us) x)).length:Int)+(2:Int)/\(↑(K5 (usR (ub us) x)).length:Int)+(2:Int)<=(↑(K5 (usR (ub us) x)).length :
 Int)+(2:Int)/\(↑(K5 (usR (ub us) x)).length:Int)+(2:Int)<=(1099511627776:Int))/\ax ((↑(K5 (usR (ub us) x)).length:Int)+(2:Int))/\((0:Int) <=
 (↑(K5 (usR (ub us) x)).length:Int)+(2:Int)/\(↑(K5 (usR (ub us) x)).length:Int)+(2:Int)<=(↑(K5 (usR (ub us) x)).length:Int)+(2:Int)/\(↑(K5 (usR
 (ub us) x)).length:Int)+(2:Int)<=(1099511627776:Int))/\((List.replicate ((↑(K5 (usR (ub us) x)).length:Int)+(2:Int)).toNat (0:Nat)).length<=aB->∃
 (a0:Nat),((M=M/\is=is/\(↑(K5 (usR (ub us) x)).length:Int)=t2/\(↑(List.replicate ((↑(K5 (usR (ub us) x)).length:Int)+(2:Int)).toNat (0:Nat)).length
 : Int)=(t1:Int)/\(0:Int)=(a0:Int))/\K5 (usR (ub us) x)=K5 t3/\(List.replicate ((↑(K5 (usR (ub us) x)).length:Int)+(2:Int)).toNat (0:Nat) =
 bh t1 a0/\[[]]=bD a0 t1 zF2)/\List.replicate ((↑(K5 (usR (ub us) x)).length:Int)+(2:Int)).toNat (0:Rat)=List.replicate t1 (0:Rat))/\a0<=rkM M us +
 (2:Nat)/\∀(a1:Nat),a1<=rkM M us+(2:Nat)->bif decide ((a1:Int)<(t1:Int)) then ax (t2+(2:Int))/\((0:Int)<=t2+(2:Int)/\t2+(2:Int)<=t2 +
 (2:Int)/\t2+(2:Int)<=(1099511627776:Int))/\((0:Int)<=(a1:Int)/\(a1:Int)<(↑(bh t1 a1).length:Int))/\((a1:Int).toNat<(bh t1 a1).length /\
 (bD a1 t1 zF2).length<(bD a1 t1 zF2++[List.replicate (t2+(2:Int)).toNat (0:Rat)]).length)/\ax ((a1:Int)+(1:Int))/\∃(x':Nat),((M=M/\is=is
 /\ t2=t2/\(t1:Int)=(t1:Int)/\(a1:Int)+(1:Int)=(x':Int))/\K5 t3=K5 t3/\((bh t1 a1).set (a1:Int).toNat ((bD a1 t1 zF2).length)=bh t1 x'
 /\ bD a1 t1 zF2++[List.replicate (t2+(2:Int)).toNat (0:Rat)]=bD x' t1 zF2)/\List.replicate t1 (0:Rat)=List.replicate t1 (0:Rat))/\x'<=rkM M us+(2
 : Nat)/\rkM M us+(2:Nat)-x'<rkM M us+(2:Nat)-a1 else ax t6/\ax (1:Int)/\ax (1:Int)/\((0:Int)<=t2/\t2<(↑(List.replicate t1 (0 :
 Rat)).length:Int))/\t2.toNat<(List.replicate t1 (0:Rat)).length/\((0:Int)<=t2+(1:Int)/\t2+(1:Int)<(↑t12.length:Int))/\t6.toNat<t12.length /\
 ((K5 t3).length<=aB->∃(a2:Nat),((M=M/\is=is/\t2=t2/\t13=t2/\(0:Int)=(a2:Int))/\K5 t3=K5 t3/\(bh t1 a1=bh t1 t1/\bD a1 t1 zF2 =
 bD t1 t1 (kkP ab aa (ub is) t4 ad a2))/\t12.set t6.toNat ae=aA t1 t8)/\a2<=rkM M us/\∀(a3:Nat),a3<=rkM M us->bif
 decide ((a3:Int)<t2) then ((0:Int)<=(a3:Int)/\(a3:Int)<t13)/\(a3:Int).toNat<(K5 t3).length/\((K5 t3).length<=aB->∃(x0b:Nat×Nat),let a8:=x0b.2;let ag:=bh t1 t1;let ah:=K5 t3;((M=M /\
 is=is/\t2=t2/\(a3:Int)=(a8:Int)/\ah.getD (a3:Int).toNat (0:Int)=(↑(rU (ub us) M.length a8):Int)/\t2=t2/\(a3:Int)=(a8:Int)
 /\ t13=t2/\(0:Int)=(↑x0b.1:Int))/\K5 t3=K5 t3/\(bh t1 t1=bh t1 t1/\bD t1 t1 (kkP ab aa (ub is) t4 ad a3)=bD t1 t1 (kkQ
 ab aa (ub is) t4 ad a8 x0b.1))/\aA t1 t8=aA t1 t8)/\(a8=a8/\a8<rkM M us/\x0b.1<=rkM M us)/\∀(y1:Nat×Nat),
let a7:=y1.1;let a6:=y1.2;let ai:=(a6:Int);let aj:=(a7:Int); let u5:=ah.getD aj.toNat (0:Int);let u4:=(↑(rU (ub us) M.length a6):Int);let u2:=ag.getD ai.toNat (0:Nat);
 let u1:=bD t1 t1 (kkQ ab aa (ub is) t4 ad a6 a7);
 let u3:=(u1.getD u2 []).set aj.toNat (dW (M.getD u4.toNat []) (M.getD u5.toNat []));a6=a8/\a6<rkM M us/\a7<=rkM M us->bif decide (aj<t2) then ((0:Int)<=aj/\aj<t13)/\aj.toNat<ah.length/\((0:Int)<=ai/\ai<t11)/\ai.toNat<ag.length/\((0:Int)<=u4/\u4<a9)/\((0:Int)<=ah.getD aj.toNat (0:Int)/\ah.getD aj.toNat (0:Int)<a9)/\((M.getD u4.toNat []).length=(M.getD u5.toNat []).length/\lM (M.getD u4.toNat []) (M.getD u5.toNat []))/\(u2<u1.length
 /\ (0:Int)<=aj/\aj<(↑(u1.getD u2 []).length:Int))/\(u2<u1.length/\aj.toNat<(u1.getD u2 []).length)/\((0:Int)<=u4/\u4 <
 af)/\((0:Int)<=ah.getD aj.toNat (0:Int)/\ah.getD aj.toNat (0:Int)<af)/\bif !is.getD u4.toNat
 false == is.getD u5.toNat false then ((0:Int)<=ai/\ai<t11)/\ai.toNat<ag.length/\((0:Int)<=ai/\ai<t11)/\ai.toNat<ag.length/\(u2<(u1.set u2 u3).length/\(0:Int)<=aj/\aj<(↑((u1.set u2 u3).getD u2 []).length :
 Int))/\(u2<(u1.set u2 u3).length/\aj.toNat<((u1.set u2 u3).getD u2 []).length)/\Sq BQ (((u1.set u2 u3).getD u2 []).getD aj.toNat (0:Rat)) /\
 (u2<(u1.set u2 u3).length/\(0:Int)<=aj/\aj<(↑((u1.set u2 u3).getD u2 []).length:Int))/\(u2<(u1.set u2 u3).length/\aj.toNat
 < ((u1.set u2 u3).getD u2 []).length)/\ax (aj+(1:Int))/\∃(x'b:Nat×Nat),((M=M/\is=is/\t2=t2/\ai=(↑x'b.2:Int)/\u4=(↑(rU
 (ub us) M.length x'b.2):Int)/\t2=t2/\ai=(↑x'b.2:Int)/\t2=t2/\aj+(1:Int)=(↑x'b.1:Int))/\K5 t3=K5 t3/\(bh t1 t1=bh
 t1 t1/\(u1.set u2 u3).set u2 (((u1.set u2 u3).getD u2 []).set aj.toNat (-((u1.set u2 u3).getD u2 []).getD aj.toNat (0:Rat)))=bD t1 t1 (kkQ
 ab aa (ub is) t4 ad x'b.2 x'b.1))/\aA t1 t8=aA t1 t8)/\(x'b.2=a8/\x'b.2<rkM M us/\x'b.1<=rkM M us)/\rkM M us-x'b.1<rkM M us -
 a7 else ax (aj+(1:Int))/\∃(x'b:Nat×Nat),((M=M/\is=is/\t2=t2/\ai=(↑x'b.2:Int)/\u4=(↑(rU (ub us) M.length x'b.2):Int)
 /\ t2=t2/\ai=(↑x'b.2:Int)/\t2=t2/\aj+(1:Int)=(↑x'b.1:Int))/\K5 t3=K5 t3/\(bh t1 t1=bh t1 t1/\u1.set u2 u3=bD t1
 t1 (kkQ ab aa (ub is) t4 ad x'b.2 x'b.1))/\aA t1 t8=aA t1 t8)/\(x'b.2=a8/\x'b.2<rkM M us/\x'b.1<=rkM M us)/\rkM M us-x'b.1<rkM
 M us-a7 else ((0:Int)<=u4/\u4<af)/\bif is.getD u4.toNat false then ax t6/\((0:Int)<=ai/\ai<t11)/\ai.toNat<ag.length/\ax (-1:Int)/\(u2<u1.length/\(0:Int)<=t2+(1:Int)/\t2+(1:Int)<(↑(u1.getD u2 []).length:Int))/\(u2<u1.length /\
 t6.toNat<(u1.getD u2 []).length)/\((0:Int)<=t2+(1:Int)/\t2+(1:Int)<t11)/\t6.toNat<ag.length/\ax (1:Int)/\(t7<(u1.set u2 ((u1.getD u2
 []).set t6.toNat t10)).length/\(0:Int)<=ai/\ai<(↑((u1.set u2 ((u1.getD u2 []).set t6.toNat t10)).getD (t7) []).length:Int))/\((t7) <
 (u1.set u2 ((u1.getD u2 []).set t6.toNat t10)).length/\ai.toNat<((u1.set u2 ((u1.getD u2 []).set t6.toNat t10)).getD ((t7)) []).length)/\ax (ai+(1:Int))/\∃(x':Nat),((M=M/\is=is/\t2=t2/\t2=t2/\ai+(1:Int)=(x':Int))/\K5 t3=K5 t3/\(bh t1 t1=bh t1 t1/\(u1.set
 u2 ((u1.getD u2 []).set t6.toNat t10)).set t7 (((u1.set u2 ((u1.getD u2 []).set t6.toNat t10)).getD t7 []).set ai.toNat ae)=bD t1 t1 (kkP
 ab aa (ub is) t4 ad x'))/\aA t1 t8=aA t1 t8)/\x'<=rkM M us/\rkM M us-x'<rkM M us-a3 else ((0:Int)<=ai/\ai <
 t11)/\ai.toNat<ag.length/\ax (-1:Int)/\(u2<u1.length/\(0:Int)<=t2/\t2<(↑(u1.getD u2 []).length:Int))/\(u2<u1.length/\t2.toNat
 < (u1.getD u2 []).length)/\((0:Int)<=t2/\t2<t11)/\t2.toNat<ag.length/\ax (1:Int)/\(t9<(u1.set u2 ((u1.getD u2 []).set t2.toNat t10)).length /\
 (0:Int)<=ai/\ai<(↑((u1.set u2 ((u1.getD u2 []).set t2.toNat t10)).getD (t9) []).length:Int))/\((t9)<(u1.set u2 ((u1.getD u2 []).set
 t2.toNat t10)).length/\ai.toNat<((u1.set u2 ((u1.getD u2 []).set t2.toNat t10)).getD ((t9)) []).length)/\ax (ai+(1:Int))/\∃(x':Nat),
 ((M=M/\is=is/\t2=t2/\t2=t2/\ai+(1:Int)=(x':Int))/\K5 t3=K5 t3/\(bh t1 t1=bh t1 t1/\(u1.set u2 ((u1.getD u2 []).set t2.toNat
 t10)).set t9 (((u1.set u2 ((u1.getD u2 []).set t2.toNat t10)).getD t9 []).set ai.toNat ae)=bD t1 t1 (kkP ab aa (ub is) t4
 ad x'))/\aA t1 t8=aA t1 t8)/\x'<=rkM M us/\rkM M us-x'<rkM M us-a3) else (okS (List.map (λ(p:Nat)=>(bD t1 t1 (kkP ab aa (ub
 is) t4 ad a3)).getD p []) (bh t1 t1)) (aA t1 t8)=true->aj4 (List.map (λ(p:Nat)=>(bD t1 t1 (kkP ab aa (ub is) t4 ad a3)).getD
 p []) (bh t1 t1)) (aA t1 t8))/\(M.length<=aB->((0:Int)<=a9/\a9<=a9/\a9<=(1099511627776:Int)) /\
 ((K5 t3).length<=aB->∃(a4:Nat),((acU (List.map (λ(p:Nat)=>(bD t1 t1 (kkP ab aa (ub is) t4 ad a3)).getD p []) (bh t1 t1)) (aA
 t1 t8)=aer t5 (aA t1 t8)/\t13=t2/\(0:Int)=(a4:Int))/\K5 t3=K5 t3/\List.replicate a9.toNat (0:Rat)=aA M.length λ(t:Nat)=>if
 rkU (ub us) t<a4 then aOm M.length ab aa (ub is) (ub us) t else (0:Rat))/\a4<=rkM M us/\∀(a5:Nat),a5<=rkM M us->bif decide ((a5:Int)<t2)
 then ((0:Int)<=(a5:Int)/\(a5:Int)<t13)/\(a5:Int).toNat<(K5 t3).length/\((0:Int)<=(a5:Int)/\(a5:Int)<(↑(aer t5 (aA t1 t8)).length:Int)) /\
 ((0:Int)<=(K5 t3).getD (a5:Int).toNat (0:Int)/\(K5 t3).getD (a5:Int).toNat (0:Int)<(↑(aA M.length λ(t:Nat)=>if rkU (ub us) t<a5 then aOm
 M.length ab aa (ub is) (ub us) t else (0:Rat)).length:Int))/\((K5 t3).getD (a5:Int).toNat (0:Int)).toNat<(aA M.length λ(t:Nat)=>if rkU
 (ub us) t<a5 then aOm M.length ab aa (ub is) (ub us) t else (0:Rat)).length/\ax ((a5:Int)+(1:Int))/\∃(x':Nat),((aer t5 (aA t1 t8) =
 aer t5 (aA t1 t8)/\t2=t2/\(a5:Int)+(1:Int)=(x':Int))/\K5 t3=K5 t3/\(aA M.length λ(t:Nat)=>if rkU (ub us) t<a5 then aOm M.length ab
 aa (ub is) (ub us) t else (0:Rat)).set ((K5 t3).getD (a5:Int).toNat (0:Int)).toNat ((aer t5 (aA t1 t8)).getD (a5:Int).toNat (0:Rat))=aA M.length
 λ(t:Nat)=>if rkU (ub us) t<x' then aOm M.length ab aa (ub is) (ub us) t else (0:Rat))/\x'<=rkM M us/\rkM M us-x'<rkM M us-a5 else (aA
 M.length λ(t:Nat)=>if rkU (ub us) t<a5 then aOm M.length ab aa (ub is) (ub us) t else (0:Rat))=aoQ M.length ab aa (ub is)
 us))))
theorem aVY (us:List Bool) (M:List (List Rat)) (is:List Bool):awp (cfg LJ4 []) (aWq us M is) Tryz.f98.ntmps (Tryz.f98.body.getD .skip) (jj Tryz.f98.results.toList (.own 0 0 5) 151 (.arr 55 .q (aoQ M.length (aps M) (vMg M is) (ub is) us))) ⟨aEE 0 [.k (.list .bool) us,.k (.list (.list .q)) M,.k (.list .bool) is],[]⟩=aOk us M is:=by kernel_rfl
theorem aV1 (us:List Bool) (M:List (List Rat)) (is:List Bool) (hg:MgR M is us):aOk us M is:=by
 obtain⟨m1,m2,m3⟩:=ba hg.right;have h24:=hg.n24;have hl:=hg.len;have hlu:=hg.lu;have h5:=hg.few;have eL:∀i,(K5 (usR (ub us) i)).length=rkU (ub us) i:=λi=>adq _;have eM:rkU (ub us) M.length=rkM M us:=rfl;have eR:∀k,k<rkM M us->(K5 (usR (ub us) M.length)).getD ((k:Nat):Int).toNat 0=((rU (ub us) M.length k:Nat):Int):=λk hk=>afF hk;have hr:∀k,k<rkM M us->rU (ub us) M.length k<M.length:=λk hk=>(aQm hk).1;have oL:(bh (rkM M us+2) (rkM M us+2)).length=rkM M us+2:=pL _ _;have oA:∀{i:Nat},i<rkM M us+2->(bh (rkM M us+2) (rkM M us+2)).getD i 0=i+1:=λhi=>avQ hi;unfold aOk;dsimp only;refine λ_=>⟨0,⟨⟨rfl,rfl,rfl,rfl,rfl⟩,rfl⟩,fi _,λi hi=>aH (λh=>?_) λh _=>?_⟩
 ·have hi':i<M.length:=by omega
  rw[show us.getD ((i:Nat):Int).toNat false=ub us i from rfl];refine⟨⟨by omega,by omega⟩,?_⟩
  cases e:ub us i with
  | true=>
   refine⟨?_,by unfold ax;omega,i+1,⟨⟨rfl,rfl,rfl,rfl,rfl⟩,?_⟩,hi',by omega⟩
   ·rw[eL];have:=aSb (ub us) i;show rkU (ub us) i+1<=aB;unfold aB;omega
   ·rw[aKC e,ahH];rfl
  | false=>exact⟨by unfold ax;omega,i+1,⟨⟨rfl,rfl,rfl,rfl,rfl⟩,by rw[aPd (by rw[e];decide)]⟩,hi',by omega⟩
 ·have e:i=M.length:=by omega
  subst e;have e2:(((rkM M us:Nat):Int)+2).toNat=rkM M us+2:=by omega
  have e1:(((rkM M us:Nat):Int)+1).toNat=rkM M us+1:=by omega
  have i2:ax (((rkM M us:Nat):Int)+2):=by unfold ax;omega
  have i1:ax (((rkM M us:Nat):Int)+1):=by unfold ax;omega
  rw[eL,eM,e2,e1,show((rkM M us:Nat):Int).toNat=rkM M us from rfl];refine⟨i2,⟨by omega,by omega,by omega⟩,i2,⟨by omega,by omega,by omega⟩,λ_=>⟨0,⟨⟨rfl,rfl,rfl,?_,rfl⟩,rfl,⟨x8 _,rfl⟩,rfl⟩,fi _,λi hi=>aH (λh=>?_) λh=>?_⟩⟩
  ·rw[ux]
  ·have hi':i<rkM M us+2:=by omega
   refine⟨i2,⟨by omega,by omega,by omega⟩,⟨by omega,by rw[pL];exact h⟩,⟨by rw[pL];exact hi',by simp⟩,by unfold ax;omega,i+1,⟨⟨rfl,rfl,rfl,rfl,rfl⟩,rfl,⟨?_,?_⟩,rfl⟩,by omega,by omega⟩
   ·rw[K3];exact As hi'
   ·unfold bD aG;rw[tI,iO,GC];rfl
  ·have e:i=rkM M us+2:=by omega
   subst e;rw[tQ,ux];refine⟨i1,by unfold ax;omega,by unfold ax;omega,⟨by omega,by omega⟩,by omega,⟨by omega,by omega⟩,by omega,λ_=>⟨0,⟨⟨rfl,rfl,rfl,rfl,rfl⟩,rfl,⟨rfl,apI λa c _ _=>aW0 a c⟩,aXk _⟩,fi _,λi hi=>aH (λh=>?_) λh=>?_⟩⟩
   ·have hi':i<rkM M us:=by omega
    refine⟨⟨by omega,h⟩,hi',λ_=>⟨(0,i),⟨⟨rfl,rfl,rfl,rfl,eR i hi',rfl,rfl,rfl,rfl⟩,rfl,⟨rfl,apI λa c _ _=>aW1 i a c⟩,rfl⟩,⟨rfl,hi',fi _⟩,λ⟨k,i3⟩ ⟨e,h2,hk⟩=>?_⟩⟩;dsimp only at e h2 hk ⊢;subst e;have Ps:=hr i3 h2;have ta:(M.getD (rU (ub us) M.length i3) []).length=aps M:=m3 _ Ps;have n3:i3<rkM M us+2:=by omega
    rw[show((i3:Nat):Int).toNat=i3 from rfl,show((rU (ub us) M.length i3:Nat):Int).toNat=rU (ub us) M.length i3 from rfl,oA n3,asV n3,oL];refine aH (λh4=>?_) λh4=>?_
    ·have sF:k<rkM M us:=by omega
     have nk:k<rkM M us+2:=by omega
     have hrk:=hr k sF;have pX:(M.getD (rU (ub us) M.length k) []).length=aps M:=m3 _ hrk;have hG:=aV4 (M:=M) (is:=is) (k:=rU (ub us) M.length k) ta;have hD:lM (M.getD (rU (ub us) M.length i3) []) (M.getD (rU (ub us) M.length k) []):=aSg (hg.sM _) (hg.sM _) (by rw[ta];exact hg.w3) (by omega);have hS:Sq 700000000 (dW (M.getD (rU (ub us) M.length i3) []) (M.getD (rU (ub us) M.length k) [])):=aVi (hg.sM _) (hg.sM _) (by rw[ta];exact hg.w3) (by omega);rw[eR k sF,show((k:Nat):Int).toNat=k from rfl,show((rU (ub us) M.length k:Nat):Int).toNat=rU (ub us) M.length k from rfl,asW n3 nk,asV n3,fW nk,aV ⟨rfl,rfl⟩,asW n3 nk,K3,K3,mX,mX];refine⟨⟨by omega,h4⟩,sF,⟨by omega,by omega⟩,n3,⟨by omega,by omega⟩,⟨by omega,by omega⟩,⟨by rw[ta,pX],hD⟩,⟨by omega,by omega,by omega⟩,⟨by omega,nk⟩,⟨by omega,by omega⟩,⟨by omega,by omega⟩,?_⟩;change bif !(ub is (rU (ub us) M.length i3) == ub is (rU (ub us) M.length k)) then _ else _
     cases e:(ub is (rU (ub us) M.length i3) == ub is (rU (ub us) M.length k)) with
     | false=>
      rw[show(!false)=true from rfl,iQ];rw[aI λe3=>by rw[e3,beq_self_eq_true] at e;cases e] at hG;refine⟨⟨by omega,by omega⟩,n3,⟨by omega,by omega⟩,n3,⟨by omega,by omega,by omega⟩,⟨by omega,nk⟩,hS.le (by unfold BQ;omega),⟨by omega,by omega,by omega⟩,⟨by omega,nk⟩,by unfold ax;omega,(k+1,i3),⟨⟨rfl,rfl,rfl,rfl,rfl,rfl,rfl,rfl,rfl⟩,rfl,⟨rfl,apI λa c _ _=>?_⟩,rfl⟩,⟨rfl,h2,sF⟩,by show _-(k+1)<_-k;omega⟩;dsimp only;rw[<-aWs,hG];by_cases h6:a=i3/\c=k
      ·rw[aV h6,aV h6]
      ·rw[aI h6,aI h6,aI h6]
     | true=>rw[show(!true)=false from rfl,qY];rw[aV (LF e)] at hG;refine⟨by unfold ax;omega,(k+1,i3),⟨⟨rfl,rfl,rfl,rfl,rfl,rfl,rfl,rfl,rfl⟩,rfl,⟨rfl,apI λa c _ _=>?_⟩,rfl⟩,⟨rfl,h2,sF⟩,by show _-(k+1)<_-k;omega⟩;dsimp only;rw[<-aWs,hG]
    ·have ek:k=rkM M us:=by omega
     subst ek;have nm:rkM M us<rkM M us+2:=by omega
     have nn:rkM M us+1<rkM M us+2:=by omega
     have cR:∀a c,_:=λa c=>aW2 (w:=aps M) (v:=vMg M is) (s:=ub is) (r:=rU (ub us) M.length) (m:=rkM M us) (i:=i3) (a:=a) (c:=c) h2;rw[show is.getD (rU (ub us) M.length i3) false=ub is (rU (ub us) M.length i3) from rfl,oA nn,oA nm,asW n3 nn,asW n3 nm,asV nn,asV nm,asW nn n3,asW nm n3];simp only[K3,mX];refine⟨⟨by omega,by omega⟩,?_⟩
     cases e:ub is (rU (ub us) M.length i3) with
     | true=>rw[e,show sd1 true=1 from rfl] at cR;exact⟨i1,⟨by omega,by omega⟩,n3,by unfold ax;omega,⟨by omega,by omega,by omega⟩,⟨by omega,nn⟩,⟨by omega,by omega⟩,nn,by unfold ax;omega,⟨by omega,by omega,by omega⟩,⟨by omega,n3⟩,by unfold ax;omega,i3+1,⟨⟨True.intro,True.intro,True.intro,True.intro,rfl⟩,True.intro,⟨True.intro,apI λa c _ _=>cR a c⟩,True.intro⟩,by omega,by omega⟩
     | false=>rw[e,show sd1 false=0 from rfl] at cR;exact⟨⟨by omega,by omega⟩,n3,by unfold ax;omega,⟨by omega,by omega,by omega⟩,⟨by omega,nm⟩,⟨by omega,by omega⟩,nm,by unfold ax;omega,⟨by omega,by omega,by omega⟩,⟨by omega,n3⟩,by unfold ax;omega,i3+1,⟨⟨True.intro,True.intro,True.intro,True.intro,rfl⟩,True.intro,⟨True.intro,apI λa c _ _=>cR a c⟩,True.intro⟩,by omega,by omega⟩
   ·have e:i=rkM M us:=by omega
    subst e;have eK:aG (rkM M us+2) (rkM M us+2) (kkP (aps M) (vMg M is) (ub is) (rU (ub us) M.length) (rkM M us) (rkM M us))=aG (rkM M us+2) (rkM M us+2) (kkF (aps M) (vMg M is) (ub is) (rU (ub us) M.length) (rkM M us)):=GI (aG _ _) (funext λa=>funext λc=>aXj a c);rw[tK,eK];obtain⟨b1,b2,b3⟩:=aXl hg.ind hg.two;have aXE:∀t,¬ub us t=true->aOm M.length (aps M) (vMg M is) (ub is) (ub us) t=0:=λt h=>aI h
    refine⟨λ_=>hg.sol,λ_=>⟨⟨by omega,by omega,by omega⟩,λ_=>⟨0,⟨⟨(akT b1 b2).1,rfl,rfl⟩,rfl,(iO _ _).trans (bE λt _=>(aI (ia _)).symm)⟩,fi _,λi hi=>aH (λh=>?_) λh=>?_⟩⟩⟩
    ·have hi':i<rkM M us:=by omega
     have Ps:=hr i hi';obtain⟨u1,u2,u3⟩:=aQm (U:=ub us) (n:=M.length) hi';have b4:aer (aG (rkM M us+2) (rkM M us+2) (kkF (aps M) (vMg M is) (ub is) (rU (ub us) M.length) (rkM M us))) (aA (rkM M us+2) (kkB (rkM M us)))=aA (rkM M us+2) (ak8 (rkM M us+2) (rkM M us+2) (kkF (aps M) (vMg M is) (ub is) (rU (ub us) M.length) (rkM M us)) (kkB (rkM M us))):=b3;rw[eR i hi',b4,mX,mX,show((i:Nat):Int).toNat=i from rfl,fW (show i<rkM M us+2 by omega),show((rU (ub us) M.length i:Nat):Int).toNat=rU (ub us) M.length i from rfl,mY Ps];refine⟨⟨by omega,h⟩,hi',⟨by omega,by omega⟩,⟨by omega,by omega⟩,Ps,by unfold ax;omega,i+1,⟨⟨rfl,rfl,rfl⟩,rfl,bE λt ht=>?_⟩,by omega,by omega⟩;by_cases e3:t=rU (ub us) M.length i
     ·have e4:rkU (ub us) t=i:=by rw[e3];exact u3
      have e5:aOm M.length (aps M) (vMg M is) (ub is) (ub us) t=ak8 (rkM M us+2) (rkM M us+2) (kkF (aps M) (vMg M is) (ub is) (rU (ub us) M.length) (rkM M us)) (kkB (rkM M us)) i:=by rw[<-e4];exact aV (by rw[e3];exact u2)
      rw[aV e3,aV (by omega),e5]
     ·rw[aI e3];by_cases e4:rkU (ub us) t<i
      ·rw[aV e4,aV (by omega)]
      ·rw[aI e4];by_cases e5:rkU (ub us) t<i+1
       ·rw[aV e5];refine(aXE t λh8=>e3 ?_).symm;have h9:=(aR7 ht h8).2;rw[show rkU (ub us) t=i by omega] at h9;exact h9.symm
       ·rw[aI e5]
    ·refine bE λt ht=>?_;by_cases e3:ub us t=true
     ·have:=(aR7 ht e3).1;exact aV (by show rkU (ub us) t<i;have:rkU (ub us) M.length=rkM M us:=rfl;omega)
     ·rw[aXE t e3];split<;>rfl
theorem aV3:aqJ (cfg []) aUG:=oY aXC bp Tryz.func98 (by kernel_rfl) (by kernel_rfl) rfl λargs g r hn hc hg hf=>by
 replace hc:a1e args=some (g,r,hn):=hc;unfold a1e at hc;split at hc
 ·cases hc;have hv:=aV1 _ _ _ hg
  cases aY (aVY _ _ _) hv;exact⟨by kernel_rfl,_,151,_,rfl,rfl,rfl,by assumption⟩
 ·cases hc
def fsI:List Bool->Bool->Nat
 | [],_=>0
 | x::xs,t=>if x=t then 0 else fsI xs t+1
theorem aSt:∀{is:List Bool} {t:Bool},(∃i,i<is.length/\ub is i=t)->fsI is t<is.length/\ub is (fsI is t)=t/\∀j,j<fsI is t->ub is j≠t
 | [],t,⟨i,hi,_⟩=>absurd hi (ia i)
 | x::xs,t,⟨i,hi,h⟩=>by
  unfold fsI;by_cases e:x=t
  ·rw[aV e];exact⟨De _,e,λj hj=>absurd hj (ia j)⟩
  ·rw[aI e]
   cases i with
   | zero=>exact absurd h e
   | succ i=>
    obtain⟨a1,a2,a3⟩:=aSt (is:=xs) (t:=t) ⟨i,Nat.lt_of_succ_lt_succ hi,h⟩;refine⟨x9 a1,a2,λj hj=>?_⟩
    cases j with
    | zero=>exact e
    | succ j=>exact a3 j (Nat.lt_of_succ_lt_succ hj)
structure NrG (M:List (List Rat)) (is:List Bool):Prop where
 right:as3 M=true
 len:is.length=M.length
 n24:M.length<=24
 w3:aps M<=3
 sM:∀i,SL 256 (M.getD i [])
 aZF:∀i j,∃z:Int,z.natAbs<1024/\el M i j*12=(z:Rat)
 two:∀t,∃i,i<M.length/\ub is i=t
section
variable {M:List (List Rat)} {is:List Bool}
theorem NrG.gv (h:NrG M is) (i j:Nat):∃z:Int,z.natAbs<1024/\vMg M is i j*12=(z:Rat):=by
 obtain⟨z,h1,h2⟩:=h.aZF i j;unfold vMg;split
 ·exact⟨z,h1,h2⟩
 ·exact⟨-z,by omega,by rw[Mr,<-h2];grind⟩
theorem NrG.gm (h:NrG M is) (i k:Nat):∃z:Int,z.natAbs<2^22/\gmM (aps M) (vMg M is) i k*144=(z:Rat):=by
 have key:∀m,m<=3->∃z:Int,z.natAbs<=m*1048576/\apV (λj=>vMg M is i j*vMg M is k j) m*144=(z:Rat):=λm=>by
  induction m with
  | zero=>intro _;exact⟨0,bF _,by show(0:Rat)*144=_;rw[Az];rfl⟩
  | succ m ih=>
   intro hm;obtain⟨z,h1,h2⟩:=ih (by omega);obtain⟨a,a1,a2⟩:=h.gv i m;obtain⟨b,b1,b2⟩:=h.gv k m;refine⟨z+a*b,?_,?_⟩
   ·have h3:(a*b).natAbs<=1023*1024:=by rw[yk];exact yr (by omega) (by omega)
    omega
   ·show(apV _ m+vMg M is i m*vMg M is k m)*144=_;rw[Rat.intCast_add,Hr,<-h2,<-a2,<-b2];grind
 obtain⟨z,h1,h2⟩:=key (aps M) h.w3;have h3:=fh 1048576 h.w3;exact⟨z,by omega,h2⟩
theorem NrG.bal (h:NrG M is) {us:List Bool} (hi:aBb M.length (aps M) (vMg M is) (ub is) λi=>ub us i=true) (hs:∀t,∃i,i<M.length/\ub is i=t/\ub us i=true):SL 183 (aoQ M.length (aps M) (vMg M is) (ub is) us):=SL.mk (λi n0=>by
 rcases aUy (k:=22) (D:=144) (by grind) (by have:=h.w3;omega) hi hs (h.gm) ⟨144,by decide,rfl⟩ n0 with h1 | ⟨z,y,h1,h2,h3,h4⟩
 ·rw[h1];exact Sq.zero _ (by omega)
 ·rw[h4];have hp:2^((aps M+4)*(22+4)+1)<=2^183:=jW (by omega) (by have:=h.w3;omega);exact Sq.ratio (fO (gA h1 hp)) (fO (gA h2 hp)) h3) (by omega)
theorem aXV {n:Nat} {b:List Rat} (hb:b.length=n):ub (suL n (cw b))=λi=>decide (0<cw b i):=aSa λi hi=>eJ (by rw[aPg (by omega)];grind)
theorem NrG.hd (h:NrG M is) {b:List Rat} (hb:b.length=M.length) (H:HdW M.length (aps M) (vMg M is) (ub is) (cw b)):SL 183 b:=by
 obtain⟨lm,hk⟩:=H.kk;have e:=aXV hb;have hi:aBb M.length (aps M) (vMg M is) (ub is) λi=>ub (suL M.length (cw b)) i=true:=H.ind.sub λi _ hu=>by rw[e] at hu;exact AD hu
 have hs:∀t,∃i,i<M.length/\ub is i=t/\ub (suL M.length (cw b)) i=true:=aIw (b:=cw b) ⟨H.nn,λi _ hp=>by rw[e];exact kx hp,hk.sum,hi⟩;obtain⟨mu,Dz⟩:=aUi hi hs;have hk3:KkW M.length (aps M) (vMg M is) (ub is) (λi=>ub (suL M.length (cw b)) i=true) (cw b) lm:=⟨λi hi hn=>hk.off i hi λhp=>hn (by rw[e];exact kx hp),hk.sum,λi hi hu=>hk.kk i hi (by rw[e] at hu;exact AD hu)⟩
 intro i;rcases cM i M.length with n0 | n0
 ·have h1:=Dz.uniq hi hk3 i n0;have h2:=h.bal hi hs i;have h3:(aoQ M.length (aps M) (vMg M is) (ub is) (suL M.length (cw b))).getD i 0=aOm M.length (aps M) (vMg M is) (ub is) (ub (suL M.length (cw b))) i:=fW n0 0;rw[h3,<-h1] at h2;exact h2
 ·rw[mZ (by omega)];exact Sq.zero _ (by omega)
def szB:Nat->Nat
 | 0=>900
 | k+1=>4*szB k+400
theorem aTE (k:Nat):∀d,szB k<=szB (k+d)
 | 0=>bF _
 | d+1=>by have:=aTE k d;show _<=4*szB (k+d)+400;omega
theorem aLq {k m:Nat} (h:k<=m):szB k<=szB m:=by obtain⟨d,rfl⟩:=K4 h;exact aTE k d
theorem aVq {b t:List Rat} {us:List Bool} {s:Nat} (h1:1<=s) (nn:∀i,0<=cw b i) (hb:SL s b) (ht:SL 183 t):SL (4*s+400) (twB b t us):=by
 have hq:∀i,cw t i<0->Sq (2*s+184) (cw b i/(cw b i-cw t i)):=λi h=>((hb i).div ((hb i).sub (ht i)) (by have:=nn i;show cw b i-cw t i≠0;grind)).le (by omega);have hW:∀i,Sq (2*s+184) (stW (ub us) (cw b) (cw t) i):=λi=>by
  induction i with
  | zero=>exact Sq.one (by omega)
  | succ k ih=>
   unfold stW;split
   ·rename_i h;split
    ·exact hq k h.2
    ·exact ih
   ·exact ih
 refine SL.mk (λi _=>?_) (by omega);unfold nxW;split
 ·exact((hb i).add ((hW b.length).mul ((ht i).sub (hb i)))).le (by omega)
 ·exact(hb i).le (by omega)
structure InS (M:List (List Rat)) (is us:List Bool) (b:List Rat):Prop where
 st:InL M.length (aps M) (vMg M is) (ub is) us b
 sz:SL (szB (5-rkU (ub us) M.length)) b
theorem InS.few {us:List Bool} {b:List Rat} (h:InS M is us b) (g:NrG M is):rkU (ub us) M.length<=5:=by have h1:=aR8 h.st.st.ind;have h2:=g.w3;omega
theorem InS.mr {us:List Bool} {b:List Rat} (h:InS M is us b) (g:NrG M is):MgR M is us:=⟨g.right,g.len,g.n24,g.w3,g.sM,h.st.lu,h.st.st.ind,aIw h.st.st⟩
theorem InS.tw {us:List Bool} {b:List Rat} (h:InS M is us b) (g:NrG M is):TwG b (aoQ M.length (aps M) (vMg M is) (ub is) us) us:=by
 have h1:=h.st.pos;have h2:szB (5-rkU (ub us) M.length)<=szB 4:=aLq (by omega);have h3:szB 4=264400:=by decide
 exact⟨by unfold aoQ;rw[mX,h.st.lb],by rw[h.st.lu,h.st.lb],by rw[h.st.lb];exact g.n24,h.st.st.nn,h.sz.le (by omega),(g.bal h.st.st.ind (aIw h.st.st)).le (by omega)⟩
theorem InS.next {us:List Bool} {b:List Rat} (h:InS M is us b) (g:NrG M is) (h1:twX b (aoQ M.length (aps M) (vMg M is) (ub is) us) us≠1) :
  InS M is (twU b (aoQ M.length (aps M) (vMg M is) (ub is) us) us) (twB b (aoQ M.length (aps M) (vMg M is) (ub is) us) us) /\
  rkU (ub (twU b (aoQ M.length (aps M) (vMg M is) (ub is) us) us)) M.length<rkU (ub us) M.length /\
  aDk M.length (aps M) (vMg M is) (ub is) M.length (twU b (aoQ M.length (aps M) (vMg M is) (ub is) us) us) (twB b (aoQ M.length (aps M) (vMg M is) (ub is) us) us)=aDk M.length (aps M) (vMg M is) (ub is) M.length us b:=by
 obtain⟨a1,a2⟩:=h.st.next h1
 have h5:=h.few g
 have hp:=h.st.pos
 have hle:=aSb (ub us) M.length
 refine⟨⟨a1,(aVq (s:=szB (5-rkU (ub us) M.length)) ?_ h.st.st.nn h.sz (g.bal h.st.st.ind (aIw h.st.st))).le ?_⟩,a2,?_⟩
 ·exact nc (by decide:1<=szB 0) (aLq (fi _))
 ·show szB (5-rkU (ub us) M.length+1)<=_
  exact aLq (by omega)
 ·obtain⟨m,hm⟩:∃m,M.length=m+1:=⟨M.length-1,by omega⟩
  have e:aDk M.length (aps M) (vMg M is) (ub is) (m+1) us b=aDk M.length (aps M) (vMg M is) (ub is) m (twU b (aoQ M.length (aps M) (vMg M is) (ub is) us) us) (twB b (aoQ M.length (aps M) (vMg M is) (ub is) us) us):=by
   conv=>lhs;unfold aDk
   rw[aI h1]
  have e2:=aRx m M.length a1 (by omega) (by omega)
  rw[<-e2,<-e,<-hm]
theorem InS.last {us:List Bool} {b:List Rat} (h:InS M is us b) (h1:twX b (aoQ M.length (aps M) (vMg M is) (ub is) us) us=1) :
  twU b (aoQ M.length (aps M) (vMg M is) (ub is) us) us=suL M.length (cw (twB b (aoQ M.length (aps M) (vMg M is) (ub is) us) us)) /\
  aDk M.length (aps M) (vMg M is) (ub is) M.length us b=twB b (aoQ M.length (aps M) (vMg M is) (ub is) us) us:=by
 have hp:=h.st.pos
 have hle:=aSb (ub us) M.length
 constructor
 ·unfold twU suL
  rw[h.st.lu]
  refine bE λi hi=>?_
  unfold nuW
  split
  ·rfl
  ·rename_i hu
   have e1:cw (twB b (aoQ M.length (aps M) (vMg M is) (ub is) us) us) i=0:=by rw[aSc (by rw[h.st.lu,h.st.lb])];unfold nxW;rw[aI hu];exact h.st.st.off hi hu
   rw[e1]
   cases h3:ub us i with
   | true=>exact absurd h3 hu
   | false=>exact(eJ (by grind)).symm
 ·obtain⟨m,hm⟩:∃m,M.length=m+1:=⟨M.length-1,by omega⟩
  have e:aDk M.length (aps M) (vMg M is) (ub is) (m+1) us b=twB b (aoQ M.length (aps M) (vMg M is) (ub is) us) us:=by
   conv=>lhs;unfold aDk
   rw[aV h1]
  rw[<-hm] at e
  exact e
def stP (is:List Bool) (n r:Nat):List Rat:=aA n λi=>if (0<r/\i=fsI is true)\/(1<r/\i=fsI is false) then 1 else 0
def stU (is:List Bool) (n r:Nat):List Bool:=aA n λi=>decide ((0<r/\i=fsI is true)\/(1<r/\i=fsI is false))
theorem aVr (is:List Bool) (n:Nat):stP is n 2=stB n (fsI is false) (fsI is true):=bE λi _=>by
 by_cases h:i=fsI is false\/i=fsI is true
 ·rw[aV h,aV (h.elim (λe=>.inr ⟨by omega,e⟩) λe=>.inl ⟨by omega,e⟩)]
 ·rw[aI h,aI λh2=>h (h2.elim (λe=>.inr e.2) λe=>.inl e.2)]
theorem aVs (is:List Bool) (n:Nat):stU is n 2=suL n (cw (stP is n 2)):=bE λi hi=>by
 have e:cw (stP is n 2) i=if (0<2/\i=fsI is true)\/(1<2/\i=fsI is false) then 1 else 0:=aU5 hi
 rw[e];by_cases h:(0<2/\i=fsI is true)\/(1<2/\i=fsI is false)
 ·rw[aV h,kx h];exact(kx (by grind)).symm
 ·rw[aI h,eJ h];exact(eJ (by grind)).symm
def sdB (r:Nat):Bool:=([true,false]).getD r false
theorem aQD {r:Nat} (hr:r<2) (i:Nat):((0<r+1/\i=fsI is true)\/(1<r+1/\i=fsI is false))↔i=fsI is (sdB r)\/((0<r/\i=fsI is true)\/(1<r/\i=fsI is false)):=by
 rcases cM r 1 with h | h
 ·have e:r=0:=by omega
  subst e;have e2:sdB 0=true:=rfl;rw[e2];omega
 ·have e:r=1:=by omega
  subst e;have e2:sdB 1=false:=rfl;rw[e2];omega
noncomputable def akv (M:List (List Rat)) (is:List Bool):List Rat:=aNd M.length (aps M) (vMg M is) (ub is) (stB M.length (fsI is false) (fsI is true))
structure OuS (M:List (List Rat)) (is:List Bool) (b:List Rat):Prop where
 lb:b.length=M.length
 hd:HdW M.length (aps M) (vMg M is) (ub is) (cw b)
 en:aNd M.length (aps M) (vMg M is) (ub is) b=akv M is
theorem NrG.start (h:NrG M is):OuS M is (stP is M.length 2):=by have hl:=h.len;obtain⟨a1,a2,_⟩:=aSt (is:=is) (t:=false) (by rw[hl];exact h.two false);obtain⟨b1,b2,_⟩:=aSt (is:=is) (t:=true) (by rw[hl];exact h.two true);rw[aVr];exact⟨mX ..,aXS (by omega) (by omega) a2 b2,rfl⟩
theorem OuS.mg {b:List Rat} (h:OuS M is b) (g:NrG M is):MgG M is b:=⟨g.right,g.len,g.n24,g.w3,g.sM,h.lb,(g.hd h.lb h.hd).le (by unfold GB;omega)⟩
theorem OuS.fin {b:List Rat} (h:OuS M is b) (h1:aL1 M is b<0):b=akv M is:=by
 unfold aL1 at h1
 cases e:aVf M is b with
 | none=>rw[<-h.en];exact(aUz e).symm
 | some r=>rw[e] at h1;exact absurd h1 (by show ¬((r:Nat):Int)<0;omega)
theorem OuS.go {b:List Rat} (h:OuS M is b) (g:NrG M is) (h1:¬aL1 M is b<0):∃r:Nat,aL1 M is b=(r:Int)/\r<M.length /\
  InS M is (aBx M.length b r) b /\
  OuS M is (aDk M.length (aps M) (vMg M is) (ub is) M.length (aBx M.length b r) b) /\
  muW M.length (aps M) (vMg M is) (ub is) (cw (aDk M.length (aps M) (vMg M is) (ub is) M.length (aBx M.length b r) b))<muW M.length (aps M) (vMg M is) (ub is) (cw b):=by
 unfold aL1 at h1 ⊢
 cases e:aVf M is b with
 | none=>rw[e] at h1;exact absurd (by decide:(-1:Int)<0) h1
 | some r=>
  have e':aNc M.length (aps M) (vMg M is) (ub is) (cw b) M.length=some r:=e
  obtain⟨c1,c2,c3⟩:=aLh h.lb h.hd e'
  obtain⟨d1,_⟩:=aUm h.lb h.hd e'
  refine⟨r,rfl,(aNU e').1,⟨d1,(g.hd h.lb h.hd).le (nc (by decide:183<=szB 0) (aLq (fi _)))⟩,⟨c2,c1,?_⟩,c3⟩
  rw[<-h.en]
  exact(aUA h.lb h.hd e').symm
theorem aVt {n r:Nat} {b:List Rat} (h:r<n):(suL n (cw b)).set r true=aBx n b r:=by
 unfold suL aBx;rw[mY h];refine bE λj _=>?_
 by_cases e:j=r
 ·rw[aV e,kx e,Bool.or_true]
 ·rw[aI e,eJ e,Bool.or_false]
end
noncomputable def aVu:List awe:=aRC::[]
theorem aVv:aA7 aVu:=⟨aSs,trivial⟩
noncomputable def LJ5:List az:=aVN::aUG::aa5::[]
theorem aV5:bd LJ5:=⟨aWo,aV3,V5,trivial⟩
noncomputable def a1I:List AV->Option (Option Prop×AV×List Ob)
 | [.k (.list (.list .q)) M,.k (.list .bool) is]=>some (some (NrG M is),.k (.list .q) (akv M is),[])
 | _=>none
noncomputable def aQS:az:=⟨63,false,a1I⟩
noncomputable def aSu (M:List (List Rat)) (is:List Bool):bk:=⟨nU,λkey_=>match key_ with
 | 4=>some (⟨Nat,λr=>[(0,.k (.list (.list .q)) M),(1,.k (.list .bool) is),(5,.own 14 0 5),(6,.own 17 0 1),(18,.own 18 0 1),(19,.k (.int .i64) (2:Int)),(20,.k (.int .i64) ((r:Nat):Int))],
 λr=>[(14,.arr 55 .q (stP is M.length r)),(17,.arr 4 .bool (stU is M.length r)),(18,.arr 4 .bool [true,false])],
 λ_ r=>r<=2,λr=>2-r⟩)
 | 7=>some (⟨Nat×Nat,λp=>[(0,.k (.list (.list .q)) M),(1,.k (.list .bool) is),(5,.own 14 0 5),(6,.own 17 0 1),(8,.k .bool (sdB p.2)),(18,.own 18 0 1),(19,.k (.int .i64) (2:Int)),(20,.k (.int .i64) ((p.2:Nat):Int)),(25,.k (.int .i64) ((M.length:Nat):Int)),(26,.k (.int .i64) ((p.1:Nat):Int))],
 λp=>[(14,.arr 55 .q (stP is M.length p.2)),(17,.arr 4 .bool (stU is M.length p.2)),(18,.arr 4 .bool [true,false])],
 λq p=>p.2=q.2/\p.2<2/\p.1<=M.length/\∀j,j<p.1->ub is j≠sdB p.2,λp=>M.length-p.1⟩)
 | 13=>some (⟨List Rat,λ_=>[(0,.k (.list (.list .q)) M),(1,.k (.list .bool) is),(5,.own 14 0 5),(6,.own 17 0 1)],
 λb=>[(14,.arr 55 .q b),(17,.arr 4 .bool (suL M.length (cw b)))],
 λ_ b=>OuS M is b,λb=>muW M.length (aps M) (vMg M is) (ub is) (cw b)⟩)
 | 17=>some (⟨List Bool×List Rat,λ_=>[(0,.k (.list (.list .q)) M),(1,.k (.list .bool) is),(5,.own 14 0 5),(6,.own 17 0 1)],
 λp=>[(14,.arr 55 .q p.2),(17,.arr 4 .bool p.1)],
 λq p=>InS M is p.1 p.2/\aDk M.length (aps M) (vMg M is) (ub is) M.length p.1 p.2=aDk M.length (aps M) (vMg M is) (ub is) M.length q.1 q.2,λp=>rkU (ub p.1) M.length⟩) | _=>none,nR,nU⟩
def aMA (M:List (List Rat)) (is:List Bool):Prop:=let aa:=(↑M.length:Int);let ab:=vMg M is;let ad:=aps M;let ae:=(↑[true,false].length:Int);M.length<=aB->((0:Int)<=aa/\aa<=aa/\aa<=(1099511627776:Int))/\(M.length<=aB->((0:Int) <=
 aa/\aa<=aa/\aa<=(1099511627776:Int))/\([true,false].length<=aB->∃(x0:Nat),((M=M/\is=is /\
 ae=(2:Int)/\(0:Int)=(x0:Int))/\List.replicate aa.toNat (0:Rat)=stP is M.length x0/\List.replicate aa.toNat false=stU is M.length x0/\[true,false]=[true,false])/\x0<=(2:Nat)/\∀(x:Nat),x<=(2:Nat)->bif decide ((x:Int)<(2:Int)) then ((0:Int)
 <= (x:Int)/\(x:Int)<ae)/\(x:Int).toNat<[true,false].length/\(M.length<=aB->∃(x0b:Nat×Nat),let a9:=x0b.2;((M=M/\is=is/\[true,
 false].getD (x:Int).toNat false=sdB a9/\(2:Int)=(2:Int)/\(x:Int)=(a9:Int)/\aa=aa/\(0:Int)=(↑x0b.1:Int))
 /\ stP is M.length x=stP is M.length a9/\stU is M.length x=stU is M.length a9/\[true,false]=[true,false])/\(a9=a9/\a9<(2:Nat)/\x0b.1 <=
 M.length/\∀(j:Nat),j<x0b.1->ub is j≠sdB a9)/\∀(y1:Nat×Nat),let a8:=y1.1;let a7:=y1.2;let af:=(a8:Int);let ag:=stP is M.length a7;let ah:=stU is M.length a7;let ai:=(a7:Int);(a7=a9/\a7<(2:Nat)/\a8<=M.length/\∀(j:Nat),j<a8->ub is j≠sdB
 a7)->bif decide (af<aa) then ((0:Int)<=af/\af<(↑is.length:Int))/\bif is.getD af.toNat false ==
 sdB a7 then ax (1:Int)/\((0:Int)<=af/\af<(↑ag.length:Int))/\af.toNat<ag.length
 /\ ((0:Int)<=af/\af<(↑ah.length:Int))/\af.toNat<ah.length/\ax (ai+(1 :
 Int))/\∃(x':Nat),((M=M/\is=is/\(2:Int)=(2:Int)/\ai+(1:Int)=(x':Int))/\ag.set af.toNat (↑(1:Int) :
 Rat)=stP is M.length x'/\ah.set af.toNat true=stU is M.length x'/\[true,false]=[true,false])/\x'<=(2:Nat)/\(2:Nat)-x' <
 (2:Nat)-x else ax (af+(1:Int))/\∃(x'b:Nat×Nat),((M=M/\is=is/\sdB a7=sdB x'b.2/\(2:Int)=(2:Int)/\ai=(↑x'b.2 :
 Int)/\aa=aa/\af+(1:Int)=(↑x'b.1:Int))/\stP is M.length a7=stP is M.length x'b.2/\stU is M.length a7=stU is
 M.length x'b.2/\[true,false]=[true,false])/\(x'b.2=a9/\x'b.2<(2:Nat)/\x'b.1<=M.length/\∀(j:Nat),j<x'b.1->ub is j≠sdB x'b.2)/\M.length-x'b.1
 < M.length-a8 else ax (ai+(1:Int))/\∃(x':Nat),((M=M/\is=is/\(2:Int)=(2:Int)/\ai+(1:Int)=(x':Int))/\stP is
 M.length a7=stP is M.length x'/\stU is M.length a7=stU is M.length x'/\[true,false]=[true,false])/\x'<=(2:Nat)/\(2:Nat)-x'<(2:Nat)-x) else ∃
 (x0c:List Rat),((M=M/\is=is)/\stP is M.length x=x0c/\stU is M.length x=suL M.length (cw x0c))/\OuS M is x0c/\∀(xb:List Rat),OuS M is xb->MgG M is xb
 /\ bif decide (aL1 M is xb<(0:Int)) then xb=akv M is else ((0:Int)<=aL1 M is xb/\aL1 M is xb<(↑(suL M.length (cw xb)).length:Int))/\(aL1 M is
 xb).toNat<(suL M.length (cw xb)).length/\∃(aJT:List Bool×List Rat),let a6:=aJT.1;let a5:=aJT.2;((M=M/\is=is)/\xb=a5/\(suL M.length (cw xb)).set (aL1 M is xb).toNat true =
 a6)/\(InS M is a6 a5/\aDk M.length ad ab (ub is) M.length a6 a5=aDk M.length ad ab (ub is) M.length a6 a5)
 /\ ∀(y1b:List Bool×List Rat),let a4:=y1b.2;let a0:=y1b.1;let u1:=aoQ M.length ad ab (ub is) a0;InS M is a0 a4/\aDk M.length ad ab (ub is) M.length
 a0 a4=aDk M.length ad ab (ub is) M.length a6 a5->MgR M is a0/\TwG a4 u1 a0/\bif decide (twX a4 u1 a0=(1:Rat)) then ∃
 (x'c:List Rat),((M=M/\is=is)/\twB a4 u1 a0=x'c/\twU a4 u1 a0=suL M.length (cw x'c))/\OuS M is x'c/\muW M.length ad ab (ub is)
 (cw x'c)<muW M.length ad ab (ub is) (cw xb) else ∃(x'd:List Bool×List Rat),((M=M/\is=is)/\twB a4 u1 a0=x'd.2/\twU a4 u1 a0 =
 x'd.1)/\(InS M is x'd.1 x'd.2/\aDk M.length ad ab (ub is) M.length x'd.1 x'd.2=aDk M.length ad ab (ub is) M.length a6 a5) /\
 rkU (ub x'd.1) M.length<rkU (ub a0) M.length))
theorem aRr (M:List (List Rat)) (is:List Bool):awp (cfg LJ5 [] aVu) (aSu M is) Tryz.f63.ntmps (Tryz.f63.body.getD .skip) (MS (cfg LJ5 [] aVu) Tryz.f63.results.toList (.k (.list .q) (akv M is))) ⟨aEE 0 [.k (.list (.list .q)) M,.k (.list .bool) is],[]⟩=aMA M is:=by kernel_rfl
theorem aRs (M:List (List Rat)) (is:List Bool) (hg:NrG M is):aMA M is:=by
 have hl:=hg.len;have h24:=hg.n24;have hF:∀t,fsI is t<M.length/\ub is (fsI is t)=t/\∀j,j<fsI is t->ub is j≠t:=λt=>by have:=aSt (is:=is) (t:=t) (by rw[hl];exact hg.two t);rw[hl] at this;exact this
 unfold aMA;refine λ_=>⟨⟨by omega,by omega,by omega⟩,λ_=>⟨⟨by omega,by omega,by omega⟩,λ_=>⟨0,⟨⟨rfl,rfl,rfl,rfl⟩,?_,?_,rfl⟩,fi _,λr hr=>aH (λh=>?_) λh=>?_⟩⟩⟩
 ·exact(iO _ _).trans (bE λi _=>(aI λh=>h.elim (λe=>absurd e.1 (by omega)) λe=>absurd e.1 (by omega)).symm)
 ·exact(iO _ _).trans (bE λi _=>(eJ λh=>h.elim (λe=>absurd e.1 (by omega)) λe=>absurd e.1 (by omega)).symm)
 ·have nY:r<2:=by omega
  refine⟨⟨by omega,h⟩,nY,λ_=>⟨(0,r),⟨⟨rfl,rfl,rfl,rfl,rfl,rfl,rfl⟩,rfl,rfl,rfl⟩,⟨rfl,nY,fi _,λj hj=>absurd hj (ia j)⟩,λ⟨i,r2⟩ ⟨e,h2,hi,bB⟩=>?_⟩⟩;dsimp only at e h2 hi bB ⊢;subst e;obtain⟨a1,a2,a3⟩:=hF (sdB r2);refine aH (λh3=>?_) λh3=>?_
  ·have hi':i<M.length:=by omega
   refine⟨⟨by omega,by omega⟩,?_⟩;change bif (ub is i == sdB r2) then _ else _
   cases e:(ub is i == sdB r2) with
   | true=>
    have ei:fsI is (sdB r2)=i:=by
     rcases vv (fsI is (sdB r2)) i with h4 | h4 | h4
     ·exact absurd a2 (bB _ h4)
     ·exact h4
     ·exact absurd (LF e) (a3 i h4)
    have lP:(stP is M.length r2).length=M.length:=mX ..;have lU:(stU is M.length r2).length=M.length:=mX ..;rw[lP,lU,show((i:Nat):Int).toNat=i from rfl];refine⟨by unfold ax;omega,⟨by omega,h3⟩,hi',⟨by omega,h3⟩,hi',by unfold ax;omega,r2+1,⟨⟨rfl,rfl,rfl,rfl⟩,?_,?_,rfl⟩,by omega,by omega⟩
    ·unfold stP;rw[mY hi'];refine bE λj _=>?_
     by_cases e2:j=i
     ·rw[aV e2,aV ((aQD h2 j).2 (.inl (by rw[ei];exact e2)))];rfl
     ·rw[aI e2];by_cases e3:(0<r2/\j=fsI is true)\/(1<r2/\j=fsI is false)
      ·rw[aV e3,aV ((aQD h2 j).2 (.inr e3))]
      ·rw[aI e3,aI λe4=>((aQD h2 j).1 e4).elim (λe5=>e2 (by rw[ei] at e5;exact e5)) e3]
    ·unfold stU;rw[mY hi'];refine bE λj _=>?_
     by_cases e2:j=i
     ·rw[aV e2,kx ((aQD h2 j).2 (.inl (by rw[ei];exact e2)))]
     ·rw[aI e2];by_cases e3:(0<r2/\j=fsI is true)\/(1<r2/\j=fsI is false)
      ·rw[kx e3,kx ((aQD h2 j).2 (.inr e3))]
      ·rw[eJ e3,eJ λe4=>((aQD h2 j).1 e4).elim (λe5=>e2 (by rw[ei] at e5;exact e5)) e3]
   | false=>
    refine⟨by unfold ax;omega,(i+1,r2),⟨⟨rfl,rfl,rfl,rfl,rfl,rfl,rfl⟩,rfl,rfl,rfl⟩,⟨rfl,h2,hi',λj hj=>?_⟩,by show _-(i+1)<_-i;omega⟩;rcases cM j i with h4 | h4
    ·exact bB j h4
    ·rw[show j=i by have:j<i+1:=hj;omega];intro h5;have h6:(ub is i == sdB r2)=true:=by rw[show ub is i=sdB r2 from h5];exact beq_self_eq_true _
     rw[h6] at e;cases e
  ·exact absurd a2 (bB _ (by omega))
 ·have e:r=2:=by omega
  subst e;refine⟨stP is M.length 2,⟨⟨rfl,rfl⟩,rfl,aVs is M.length⟩,hg.start,λb hb=>⟨hb.mg hg,aH (λh=>hb.fin h) λh=>?_⟩⟩;obtain⟨k,e,hk,hI,hO,hm⟩:=hb.go hg h;have eS:(suL M.length (cw b)).length=M.length:=mX ..;rw[e,eS,show((k:Nat):Int).toNat=k from rfl,aVt hk];refine⟨⟨by omega,by omega⟩,hk,(aBx M.length b k,b),⟨⟨rfl,rfl⟩,rfl,rfl⟩,⟨hI,rfl⟩,λ⟨us,c⟩=>?_⟩;dsimp only;intro⟨hS,hE⟩;refine⟨hS.mr hg,hS.tw hg,aH (λh1=>?_) λh1=>?_⟩
  ·obtain⟨l1,l2⟩:=hS.last h1;refine⟨_,⟨⟨rfl,rfl⟩,rfl,l1⟩,?_,?_⟩
   ·rw[<-l2,hE];exact hO
   ·rw[<-l2,hE];exact hm
  ·obtain⟨n1,n2,n3⟩:=hS.next hg h1;exact⟨(_,_),⟨⟨rfl,rfl⟩,rfl,rfl⟩,⟨n1,n3.trans hE⟩,n2⟩
theorem aRt:aqJ (cfg []) aQS:=aYv aV5 bp aVv Tryz.func63 (by kernel_rfl) (by kernel_rfl) rfl (by kernel_rfl) λargs g r hn hc hg hf=>by
 replace hc:a1I args=some (g,r,hn):=hc;unfold a1I at hc;split at hc
 ·cases hc;have hv:=aRs _ _ hg
  cases aY (aRr _ _) hv;exact⟨rfl,by kernel_rfl,_,by assumption⟩
 ·cases hc
end Go.Proofs.YtlijkeolpmgioaaGreatDoor.AM
