/- The base of the proof: contracts of functions, the engine that shows them, and mathematics. -/
import Derived.Test.YtdgmgfaphpkocaaGreatDoorBd9
set_option maxRecDepth 100000
set_option linter.unusedVariables false
set_option linter.unusedSimpArgs false
set_option maxHeartbeats 1000000
namespace Go.Proofs.YtdgmgfaphpkocaaGreatDoor.AM
open Go.RowKit
def amP (M:LM):Bool:=match M with
 | []=>false
 | r::_=> !decide (r.length=0)&&M.all fun x=>decide (x.length=r.length)
theorem nM {M:LM} (hp:0<M.length) (ay:(M.getD 0 []).length≠0) (h:∀j,j<M.length->(M.getD j []).length=(M.getD 0 []).length):amP M=true:=by
 cases M with
 | nil=>simp at hp
 | cons r rs=>
  have ay:r.length≠0:=by simpa using ay
  have:∀x∈(r::rs),x.length=r.length:=fun x hx=>by obtain ⟨i,hi⟩:=F3.1 hx;have aU:=(yj.1 hi).1;have:=h i aU;rw [aV,hi] at this;simpa using this
  unfold amP;simp only [fh,Ah,Cr,yV,decide_eq_false_iff_not];exact ⟨ay,this⟩
theorem ju {M:LM} (h:(M.getD 0 []).length=0\/∃i,i<M.length/\(M.getD i []).length≠(M.getD 0 []).length):amP M=false:=by
 cases M with
 | nil=>rfl
 | cons r rs=>
  cases hb:amP (r::rs) with
  | false=>rfl
  | true=>
   exfalso;unfold amP at hb;simp only [fh,Ah,Cr,yV,decide_eq_false_iff_not] at hb;obtain ⟨h1,h2⟩:=hb;rcases h with h | ⟨i,hi,ay⟩
   ·exact h1 (by simpa using h)
   ·refine ay ?_;rw [aV,gA hi];exact h2 _ (Lb hi)
def afM (M:LM):Nat:=(M.getD 0 []).length
theorem ba {M:LM} (h:amP M=true):0<M.length/\afM M≠0/\∀i,i<M.length->(M.getD i []).length=afM M:=by
 cases M with
 | nil=>cases h
 | cons r rs=>unfold amP at h;simp only [fh,Ah,Cr,yV,decide_eq_false_iff_not] at h;exact ⟨by simp,h.1,fun i hi=>h.2 _ (Ao hi [])⟩
def aI (M:LM):Bool:=bif amP M then decide (M.length=afM M) else false
theorem iQ {M:LM} (h:aI M=true):amP M=true/\0<M.length/\afM M=M.length/\∀i,i<M.length->(M.getD i []).length=M.length:=by
 unfold aI at h
 cases hr:amP M with
 | false=>rw [hr] at h;cases h
 | true=>rw [hr] at h;have h:decide (M.length=afM M)=true:=h;obtain ⟨h1,h2,h3⟩:=ba hr;have h4:=Dd h;exact ⟨rfl,h1,h4.symm,fun i hi=>by rw [h3 i hi,h4]⟩
theorem Lh {n m:Nat} (hn:0<n) (hm:0<m) (F:Nat->Nat->Rat):amP (aG n m F)=true:=
 nM (by simp;omega) (by rw [na hn];simp;omega) fun j hj=>by rw [ab9] at hj;rw [na hj,na hn];simp
theorem tM {n m:Nat} (hn:0<n) (F:Nat->Nat->Rat):afM (aG n m F)=m:=by unfold afM;rw [na hn];simp
def bF (M N:LM):Bool:=bif amP M then bif amP N then decide (afM M=N.length) else false else false
def bz (b:Bool) (M:LM):LM:=bif b then M else []
def bu (b:Bool):Int:=bif b then 0 else 5
def mulM (M N:LM):LM:=aG M.length (afM N) fun i j=>sumN (fun k=>el M i k*el N k j) (M.getD i []).length
theorem CS {M N:LM} (h:bF M N=true):amP M=true/\amP N=true/\afM M=N.length:=by
 unfold bF at h
 cases h1:amP M <;> rw [h1] at h <;> try (cases h;done)
 cases h2:amP N <;> rw [h2] at h <;> try (cases h;done)
 exact ⟨rfl,rfl,Dd h⟩
theorem en {b:Bool} {X Y:Prop} (h1:b=false->X) (h2:b=true->Y):cond (!b) X Y:=by
 cases b with
 | true=>exact h2 rfl
 | false=>exact h1 rfl
theorem Ax {M:LM} (h:Fits (.list (.list .q)) M):M.length<=aB/\∀i,(M.getD i []).length<=aB:=
 ⟨h.1,fun i=>by
  rcases dz i M.length with hi | hi
  ·exact (h.2 _ (Ao hi [])).1
  ·rw [mZ hi];exact ia _⟩
theorem bX {a b:Nat}:((a:Int)=(b:Int))↔a=b:=Int.ofNat_inj
theorem kJ {M N:LM} (h:¬(amP M=true/\amP N=true/\afM M=N.length)):bF M N=false:=by
 cases hb:bF M N with
 | false=>rfl
 | true=>exact absurd (CS hb) h
theorem qY {M N:LM} (h1:amP M=true) (h2:amP N=true) (h3:afM M=N.length):bF M N=true:=by unfold bF;rw [h1,h2,xX h3];rfl
noncomputable def LA1:List az:=[]
theorem NQ:bd LA1:=trivial
def fmRight:CF
 | [.k (.list (.list .q)) M]=>some (none,.k .bool (amP M),[])
 | _=>none
def ya:az:=⟨36,false,fmRight⟩
def Li (M:LM):bk:=⟨nU,fun key_=>match key_ with
 | 4=>some (⟨Nat,fun i=>[(0,.k (.list (.list .q)) M),(2,.k .bool false),(15,.k (.list (.list .q)) M),(16,.k (.int .i64) ((M.length:Nat):Int)),(17,.k (.int .i64) ((i:Nat):Int))],
 fun i=>[],fun _ i=>i<=M.length/\0<M.length/\((M.getD 0 []).length≠0)/\∀j,j<i->(M.getD j []).length=(M.getD 0 []).length,fun i=>M.length-i⟩) | _=>none,nR,nU⟩
def yb (M:LM):Prop:=
 let t1:=M.getD (Int.toNat (0:Int)) [];
 let t2:=M.getD (0:Nat) [];
 M.length<=aB->bif decide ((↑M.length:Int)=0) then false=amP M else ((0:Int)<=(0:Int)/\(0:Int)<(↑M.length:Int))/\(t1.length<=aB->bif
 decide ((↑t1.length:Int)=0) then false=amP M else M.length<=aB->∃(x0:Nat),(M=M/\false=false/\M=M/\(↑M.length:Int)=↑M.length /\
 (0:Int)=(↑x0:Int))/\(x0<=M.length/\(0:Nat)<M.length/\t2.length≠(0:Nat)/\∀(j:Nat),j<x0->(M.getD j []).length=t2.length)/\∀(x:Nat),(x <=
 M.length/\(0:Nat)<M.length/\t2.length≠(0:Nat)/\∀(j:Nat),j<x->(M.getD j []).length=t2.length)->bif decide ((↑x:Int)<↑M.length) then ((0 :
 Int)<=(↑x:Int)/\(↑x:Int)<↑M.length)/\((M.getD (↑x:Int).toNat []).length<=aB->((0:Int)<=(0:Int)/\(0:Int)<(↑M.length:Int))/\(t1.length <=
 aB->bif !decide ((↑(M.getD (↑x:Int).toNat []).length:Int)=(↑t1.length:Int)) then false=amP M else ((-9223372036854775808:Int)<=(↑x:Int)+1 /\
 (↑x:Int)+1<=(9223372036854775807:Int))/\∃(x':Nat),(M=M/\false=false/\M=M/\(↑M.length:Int)=↑M.length/\(↑x:Int)+1 =
 (↑x':Int))/\(x'<=M.length/\(0:Nat)<M.length/\t2.length≠(0:Nat)/\∀(j:Nat),j<x'->(M.getD j []).length=t2.length)/\M.length-x'<M.length-x))
 else true=amP M)
theorem Gu (M:LM):aw LA1 [] (Li M) Tryz.f36 (.k .bool (amP M)) [.k (.list (.list .q)) M]=yb M:=by kernel_rfl
theorem Gx (M:LM) (hf:cJ [.k (.list (.list .q)) M]):yb M:=by
 unfold yb;dsimp only;intro h0;unfold aB at h0;refine aH (fun h=>?_) fun h=>⟨by omega,fun h1=>aH (fun h2=>?_) fun h2=>fun _=>⟨0,⟨rfl,rfl,rfl,rfl,rfl⟩,⟨by omega,by omega,?_,fun j hj=>by omega⟩,fun i ⟨hi,hp,ay,bB⟩=>aH (fun h3=>⟨⟨by omega,h3⟩,fun _=>⟨by omega,fun _=>dP (fun h4=>?_) fun h4=>⟨by omega,i+1,⟨rfl,rfl,rfl,rfl,rfl⟩,⟨by omega,hp,ay,fun j hj=>?_⟩,by omega⟩⟩⟩) fun h3=>?_⟩⟩
 ·cases M with
  | nil=>rfl
  | cons=>simp at h;omega
 ·exact (ju (.inl (show (M.getD 0 []).length=0 by have h2:((((M.getD 0 []).length:Nat):Int))=0:=h2;omega))).symm
 ·have h2:¬((((M.getD 0 []).length:Nat):Int))=0:=h2;omega
 ·have h4:¬((((M.getD i []).length:Nat):Int))=(((M.getD 0 []).length:Nat):Int):=h4;exact (ju (.inr ⟨i,by omega,by omega⟩)).symm
 ·rcases dz j i with h | h
  ·exact bB j h
  ·have:j=i:=by omega
   subst this;have h4:((((M.getD j []).length:Nat):Int))=(((M.getD 0 []).length:Nat):Int):=h4;omega
 ·exact (nM hp ay fun j hj=>bB j (by omega)).symm
theorem uz:aoH (cfg []) ya:=cf NQ bp Tryz.func36 (by kernel_rfl) fun args g r hn hc hg hf=>by
 replace hc:fmRight args=some (g,r,hn):=hc;unfold fmRight at hc;split at hc
 ·obtain ⟨rfl,rfl,rfl⟩:=aN hc;cases aY (Gu _) (Gx _ hf);exact ⟨rfl,by kernel_rfl,_,by assumption⟩
 ·cases hc
noncomputable def LA2:List az:=ya::[]
theorem kx:bd LA2:=⟨uz,trivial⟩
def tN:CF
 | [.k (.list (.list .q)) M]=>some (none,.k .bool (aI M),[])
 | _=>none
def tO:az:=⟨43,false,tN⟩
def Gy (M:LM):bk:=⟨nU,nL,nR,nU⟩
def tP (M:LM):Prop:=bif amP M then M.length<=aB->((0:Int)<=(0:Int)/\(0:Int)<(↑M.length:Int))/\((M.getD (Int.toNat (0:Int)) []).length<=aB->decide ((↑M.length:Int) =
 (↑(M.getD (Int.toNat (0:Int)) []).length:Int))=aI M) else false=aI M
theorem CT (M:LM):aw LA2 [] (Gy M) Tryz.f43 (.k .bool (aI M)) [.k (.list (.list .q)) M]=tP M:=by kernel_rfl
theorem CU (M:LM) (hf:cJ [.k (.list (.list .q)) M]):tP M:=by
 unfold tP;refine nC (fun h _=>?_) fun h=>?_
 ·obtain ⟨h1,h2,h3⟩:=ba h;refine ⟨⟨by omega,by omega⟩,fun _=>?_⟩;unfold aI;rw [h];exact GU.2 bX
 ·unfold aI;rw [h];rfl
theorem sA:aoH (cfg []) tO:=cf kx bp Tryz.func43 (by kernel_rfl) fun args g r hn hc hg hf=>by
 replace hc:tN args=some (g,r,hn):=hc;unfold tN at hc;split at hc
 ·obtain ⟨rfl,rfl,rfl⟩:=aN hc;cases aY (CT _) (CU _ hf);exact ⟨rfl,by kernel_rfl,_,by assumption⟩
 ·cases hc
noncomputable def LA4:List az:=NK::LA2
theorem Z8:bd LA4:=⟨K9,kx⟩
def CV:CF
 | [.k (.list (.list .q)) M]=>some (none,T2 (.k (.list (.list .q)) (bz (amP M) (aG (afM M) M.length fun i j=>el M j i))) (.k (.int .i64) (bu (amP M))),[])
 | _=>none
def NR:az:=⟨13,false,CV⟩
def RJ (M:LM):bk:=⟨fun key_=>match key_ with | 3=>7 | _=>0,nL,nR,nU⟩
def CW (M:LM):Prop:=
 let t1:=M.getD (Int.toNat (0:Int)) [];
 bif !amP M then bz (amP M) (aG (afM M) M.length fun (i j:Nat)=>el M j i)=[]/\(5:Int)=bu (amP M) else ((0:Int)<=(0:Int)/\(0:Int) <
 (↑M.length:Int))/\(t1.length<=aB/\M.length<=aB/\∀(i j:Nat),i<t1.length->j<M.length->j<M.length/\i<(M.getD j []).length)/\List.map (fun (p:Nat)
 =>(bD t1.length M.length fun (i j:Nat)=>el M j i).getD p []) (bh t1.length t1.length)=bz (amP M) (aG (afM M) M.length fun (i j:Nat)=>el M j i)/\(0
 : Int)=bu (amP M)
theorem Lk (M:LM):aw LA4 [] (RJ M) Tryz.f13 (T2 (.k (.list (.list .q)) (bz (amP M) (aG (afM M) M.length fun i j=>el M j i))) (.k (.int .i64) (bu (amP M)))) [.k (.list (.list .q)) M]=CW M:=by kernel_rfl
theorem Ll (M:LM) (hf:cJ [.k (.list (.list .q)) M]):CW M:=by
 obtain ⟨f1,f2⟩:=Ax hf.1;unfold CW;intro t1;refine en (fun h=>?_) fun h=>?_
 ·rw [h];exact ⟨rfl,rfl⟩
 ·obtain ⟨h1,h2,h3⟩:=ba h;rw [h];exact ⟨⟨by omega,by omega⟩,⟨f2 0,f1,fun i j hi hj=>⟨hj,by rw [h3 j hj];exact hi⟩⟩,tK,rfl⟩
theorem Lm:aoH (cfg []) NR:=cf Z8 bp Tryz.func13 (by kernel_rfl) fun args g r hn hc hg hf=>by
 replace hc:CV args=some (g,r,hn):=hc;unfold CV at hc;split at hc
 ·obtain ⟨rfl,rfl,rfl⟩:=aN hc;cases aY (Lk _) (Ll _ hf);exact ⟨rfl,by kernel_rfl,_,by assumption⟩
 ·cases hc
noncomputable def abd:List az:=Xp::LA2
theorem XG:bd abd:=⟨RE,kx⟩
def CX:CF
 | [.k (.list (.list .q)) M,.k (.list (.list .q)) N]=>some (some (0<N.length/\(∀i,i<M.length->(M.getD i []).length<=N.length)/\(∀k,k<N.length->(N.getD k []).length=afM N)/\fK M N),.k (.list (.list .q)) (mulM M N),[])
 | _=>none
def CY:az:=⟨40,false,CX⟩
def RW (M N:LM):bk:=⟨fun key_=>match key_ with | 1=>7 | _=>0,nL,nR,nU⟩
def NS (M N:LM):Prop:=((0:Int)<=(0:Int)/\(0:Int)<(↑N.length:Int))/\(M.length<=aB/\(N.getD (Int.toNat (0:Int)) []).length<=aB/\∀(i j:Nat),i<M.length->j<(N.getD
 (Int.toNat (0:Int)) []).length->i<M.length/\(M.getD i []).length<=N.length/\(∀(k:Nat),k<N.length->j<(N.getD k []).length)/\∃(j:Nat),∃(k:Nat),∃
 (l:Nat),(∀(i jo:Nat),Sq j ((M.getD i []).getD jo 0))/\(∀(i jo:Nat),Sq k ((N.getD i []).getD jo 0))/\(∀(i:Nat),(M.getD i []).length <=
 l)/\(j+k+1)*l+j+k+1<=BQ)/\List.map (fun (p:Nat)=>(bD M.length (N.getD (Int.toNat (0:Int)) []).length fun (i j:Nat)=>sumN (fun
 (k:Nat)=>el M i k*el N k j) (M.getD i []).length).getD p []) (bh M.length M.length)=mulM M N
theorem Lr (M N:LM):aw abd [] (RW M N) Tryz.f40 (.k (.list (.list .q)) (mulM M N)) [.k (.list (.list .q)) M,.k (.list (.list .q)) N]=NS M N:=by kernel_rfl
theorem Ls (M N:LM) (hg:0<N.length/\(∀i,i<M.length->(M.getD i []).length<=N.length)/\(∀k,k<N.length->(N.getD k []).length=afM N)/\fK M N) (hf:cJ [.k (.list (.list .q)) M,.k (.list (.list .q)) N]):NS M N:=by obtain ⟨h1,h2,h3,h4⟩:=hg;obtain ⟨f1,f2⟩:=Ax hf.1;obtain ⟨g1,g2⟩:=Ax hf.2.1;exact ⟨⟨by omega,by omega⟩,⟨f1,g2 0,fun i j hi hj=>⟨hi,h2 i hi,fun k hk=>by rw [h3 k hk];exact hj,h4⟩⟩,tK⟩
theorem yd:aoH (cfg []) CY:=cf XG bp Tryz.func40 (by kernel_rfl) fun args g r hn hc hg hf=>by
 replace hc:CX args=some (g,r,hn):=hc;unfold CX at hc;split at hc
 ·obtain ⟨rfl,rfl,rfl⟩:=aN hc;cases aY (Lr _ _) (Ls _ _ hg hf);exact ⟨rfl,by kernel_rfl,_,by assumption⟩
 ·cases hc
noncomputable def abe:List az:=CY::LA2
theorem XH:bd abe:=⟨yd,kx⟩
def Lt:CF
 | [.k (.list (.list .q)) M,.k (.list (.list .q)) N]=>some (some (fK M N),T2 (.k (.list (.list .q)) (bz (bF M N) (mulM M N))) (.k (.int .i64) (bu (bF M N))),[])
 | _=>none
def XI:az:=⟨15,false,Lt⟩
def XJ (M N:LM):bk:=⟨nU,nL,nR,nU⟩
def Lu (M N:LM):Prop:=bif !amP M then bz (bF M N) (mulM M N)=[]/\(5:Int)=bu (bF M N) else bif !amP N then bz (bF M N) (mulM M N)=[]/\(5:Int)=bu (bF M N)
 else ((0:Int)<=(0:Int)/\(0:Int)<(↑M.length:Int))/\((M.getD (Int.toNat (0:Int)) []).length<=aB->N.length<=aB->bif !decide ((↑(M.getD (Int.toNat (0 :
 Int)) []).length:Int)=(↑N.length:Int)) then bz (bF M N) (mulM M N)=[]/\(5:Int)=bu (bF M N) else ((0:Nat)<N.length/\(∀(i:Nat),i<M.length ->
 (M.getD i []).length<=N.length)/\(∀(k:Nat),k<N.length->(N.getD k []).length=afM N)/\∃(j:Nat),∃(k:Nat),∃(l:Nat),(∀(i jo:Nat),Sq j ((M.getD i
 []).getD jo 0))/\(∀(i jo:Nat),Sq k ((N.getD i []).getD jo 0))/\(∀(i:Nat),(M.getD i []).length<=l)/\(j+k+1)*l+j+k+(1 :
 Nat)<=BQ)/\mulM M N=bz (bF M N) (mulM M N)/\(0:Int)=bu (bF M N))
theorem RX (M N:LM):aw abe [] (XJ M N) Tryz.f15 (T2 (.k (.list (.list .q)) (bz (bF M N) (mulM M N))) (.k (.int .i64) (bu (bF M N)))) [.k (.list (.list .q)) M,.k (.list (.list .q)) N]=Lu M N:=by kernel_rfl
theorem RY (M N:LM) (hg:fK M N):Lu M N:=by
 unfold Lu;refine en (fun h=>?_) fun hM=>en (fun h=>?_) fun hN=>?_
 ·rw [kJ fun e=>by rw [h] at e;cases e.1];exact ⟨rfl,rfl⟩
 ·rw [kJ fun e=>by rw [h] at e;cases e.2.1];exact ⟨rfl,rfl⟩
 ·obtain ⟨m1,m2,m3⟩:=ba hM;obtain ⟨n1,n2,n3⟩:=ba hN;refine ⟨⟨by omega,by omega⟩,fun _ _=>dP (fun h=>?_) fun h=>?_⟩
  ·rw [kJ fun e=>h (bX.2 e.2.2)];exact ⟨rfl,rfl⟩
  ·have h:afM M=N.length:=bX.1 h;rw [qY hM hN h];exact ⟨⟨n1,fun i hi=>by rw [m3 i hi];omega,fun k hk=>n3 k hk,hg⟩,rfl,rfl⟩
theorem RZ:aoH (cfg []) XI:=cf XH bp Tryz.func15 (by kernel_rfl) fun args g r hn hc hg hf=>by
 replace hc:Lt args=some (g,r,hn):=hc;unfold Lt at hc;split at hc
 ·obtain ⟨rfl,rfl,rfl⟩:=aN hc;cases aY (RX _ _) (RY _ _ hg);exact ⟨rfl,by kernel_rfl,_,by assumption⟩
 ·cases hc
def nc (M N:LM) (k:Rat):Prop:=∃a b c,SM a M/\SM b N/\Sq c k/\a+b+c+1<=BQ
theorem nc.at {M N:LM} {k:Rat} (h:nc M N k) (i j:Nat):Sq BQ (el M i j)/\Sq BQ (el N i j)/\Sq BQ k/\Sq BQ (k*el N i j):=by obtain ⟨a,b,c,h1,h2,h3,h4⟩:=h;exact ⟨(h1.el i j).le (by omega),(h2.el i j).le (by omega),h3.le (by omega),(h3.mul (h2.el i j)).le (by omega)⟩
def j3 (M N:LM) (k:Rat):LM:=aA M.length fun i=>aA (M.getD i []).length fun j=>el M i j+k*el N i j
theorem ky {α:Type} {n m:Nat} {f:Nat->α} {v:α} (h:n<m) (hL:m<=aB):(aA n f).length+[v].length<=aB:=by simp;omega
theorem nQ {i n:Nat} (h:i<n) (hL:n<=aB):(-9223372036854775808:Int)<=(i:Int)+1/\(i:Int)+1<=9223372036854775807:=by unfold aB at hL;omega
theorem idx {i:Nat} {n:Int} (h:(i:Int)<n):0<=(i:Int)/\(i:Int)<n:=⟨by omega,h⟩
theorem idn {i n:Nat} (h:i<n):0<=(i:Int)/\(i:Int)<(n:Int):=⟨by omega,by omega⟩
theorem sign_zero {x:Rat}:x.num.sign=0↔x=0:=by rw [G3,Hf]
theorem R3 {M N:LM} {i c:Nat} (h:(M.getD i []).length<=N.length):dW (M.getD i []) (aA N.length fun i=>el N i c)=sumN (fun k=>el M i k*el N k c) (M.getD i []).length:=uv fun k hk=>by rw [fW (by omega)];rfl
theorem fK.dot {M N:LM} (h:fK M N) (i c:Nat):lM (M.getD i []) (aA N.length fun i=>el N i c):=by
 obtain ⟨j,k,l,h1,h2,h3,h4⟩:=h;have h5:=iR (j+k+1) (h3 i);refine ⟨j,k,h1 i,fun t=>?_,by omega⟩;rcases dz t N.length with ht | ht
 ·rw [fW ht];exact h2 t c
 ·rw [aAu ht];have:=h2 t 0;rw [mZ ht] at this;exact this
noncomputable def Lv:List az:=WW::Kv::Kx::[]
theorem pM:bd Lv:=⟨Q7,Ai,Aj,trivial⟩
def frRight:CF
 | [.k (.list (.list .rq)) M]=>some (none,.k .bool (amP M),[])
 | _=>none
def ye:az:=⟨48,false,frRight⟩
def Lw (M:LM):bk:=⟨fun key_=>match key_ with | 4=>12 | _=>0,fun key_=>match key_ with
 | 2=>some (⟨Nat,fun i=>[(0,.k (.list (.list .rq)) M),(3,.k (.int .i64) ((i:Nat):Int))],
 fun i=>[],fun _ i=>i<=M.length/\∀j,j<i->(M.getD j []).length=(M.getD 0 []).length/\(M.getD j []).length≠0,fun i=>M.length-i⟩) | _=>none,nR,nU⟩
def yf (M:LM):Prop:=∃(x0:Nat),(M=M/\(0:Int)=(↑x0:Int))/\(x0<=M.length/\∀(j:Nat),j<x0->(M.getD j []).length=(M.getD (0:Nat) []).length/\(M.getD j []).length≠(0 :
 Nat))/\∀(x:Nat),(x<=M.length/\∀(j:Nat),j<x->(M.getD j []).length=(M.getD (0:Nat) []).length/\(M.getD j []).length≠0)->M.length<=aB->bif
 decide ((↑x:Int)<↑M.length) then (0<=(↑x:Int)/\(↑x:Int)<↑M.length)/\((0:Int)<=(0:Int)/\(0:Int)<(↑M.length:Int))/\bif
 !decide ((↑(M.getD (↑x:Int).toNat []).length:Int)=(↑(M.getD (Int.toNat (0:Int)) []).length:Int)) then false=amP M else (0<=(↑x:Int)/\(↑x:Int)
 < (↑M.length:Int))/\((M.getD (↑x:Int).toNat []).length<=aB->bif decide ((↑(M.getD (↑x:Int).toNat []).length:Int)=0) then false=amP M else
 ((-9223372036854775808:Int)<=(↑x:Int)+1/\(↑x:Int)+1<=(9223372036854775807:Int))/\∃(x':Nat),(M=M/\(↑x:Int)+1=(↑x' :
 Int))/\(x'<=M.length/\∀(j:Nat),j<x'->(M.getD j []).length=(M.getD (0:Nat) []).length/\(M.getD j []).length≠0)/\M.length-x'<M.length-x)
 else M.length<=aB->decide ((0:Int)<(↑M.length:Int))=amP M
theorem GD (M:LM):aw Lv [] (Lw M) Tryz.f48 (.k .bool (amP M)) [.k (.list (.list .rq)) M]=yf M:=by kernel_rfl
theorem GF (M:LM) (hf:cJ [.k (.list (.list .rq)) M]):yf M:=by
 unfold yf;refine ⟨0,⟨rfl,rfl⟩,⟨ia _,fun j hj=>by omega⟩,fun i ⟨hi,bB⟩ hL=>aH (fun h=>⟨idx h,⟨by omega,by omega⟩,dP (fun h'=>?_) fun h'=>⟨idx h,fun _=>aH (fun h3=>?_) fun h3=>⟨nQ (by omega) hL,i+1,⟨rfl,rfl⟩,⟨by omega,fun j hj=>?_⟩,by omega⟩⟩⟩) fun h _=>?_⟩
 ·exact (ju (.inr ⟨i,by omega,fun e=>h' (bX.2 e)⟩)).symm
 ·have h3:(M.getD i []).length=0:=by have:(((M.getD i []).length:Nat):Int)=0:=h3;omega
  have h':(M.getD i []).length=(M.getD 0 []).length:=bX.1 h';exact (ju (.inl (by omega))).symm
 ·rcases dz j i with h4 | h4
  ·exact bB j h4
  ·rw [show j=i by omega];exact ⟨bX.1 h',fun e=>h3 (bX.2 e)⟩
 ·rcases nP M.length with e | e
  ·rw [tS (by omega),List.length_eq_zero_iff.1 e];rfl
  ·rw [xX (by omega)];exact (nM e (bB 0 (by omega)).2 fun j hj=>(bB j (by omega)).1).symm
theorem aCH:aoH (cfg []) ye:=cf pM bp Tryz.func48 (by kernel_rfl) fun args g r hn hc hg hf=>by
 replace hc:frRight args=some (g,r,hn):=hc;unfold frRight at hc;split at hc
 ·obtain ⟨rfl,rfl,rfl⟩:=aN hc;cases aY (GD _) (GF _ hf);exact ⟨rfl,by kernel_rfl,_,by assumption⟩
 ·cases hc
def frCol:CF
 | [.k (.list (.list .rq)) M,.k (.int .i64) ((c:Nat):Int)]=>some (some (∀i,i<M.length->c<(M.getD i []).length),.k (.list .rq) (aA M.length fun i=>el M i c),[])
 | _=>none
def XL:az:=⟨49,false,frCol⟩
def XM (M:LM) (c:Nat):bk:=⟨nU,fun key_=>match key_ with
 | 3=>some (⟨Nat,fun i=>[(0,.k (.list (.list .rq)) M),(1,.k (.int .i64) ((c:Nat):Int)),(5,.own 5 0 3),(6,.k (.int .i64) ((i:Nat):Int))],
 fun i=>[(5,.arr 65 .rq (aA i fun i=>el M i c))],fun _ i=>i<=M.length,fun i=>M.length-i⟩) | _=>none,nR,nU⟩
def Lz (M:LM) (c:Nat):Prop:=∃(x0:Nat),((M=M/\(↑c:Int)=↑c/\(0:Int)=(↑x0:Int))/\(aA x0 fun (i:Nat)=>el M i c)=[])/\x0<=M.length/\∀(x:Nat),x<=M.length ->
 M.length<=aB->bif decide ((↑x:Int)<↑M.length) then (0<=(↑x:Int)/\(↑x:Int)<↑M.length)/\(0<=(↑c:Int)/\(↑c:Int) <
 (↑(M.getD (↑x:Int).toNat []).length:Int))/\(aA x fun (i:Nat)=>el M i c).length+[(M.getD (↑x:Int).toNat []).getD (↑c:Int).toNat 0].length<=aB /\
 ((-9223372036854775808:Int)<=(↑x:Int)+1/\(↑x:Int)+1<=(9223372036854775807:Int))/\∃(x':Nat),((M=M/\(↑c:Int)=↑c/\(↑x :
 Int)+(1:Int)=(↑x':Int))/\(aA x fun (i:Nat)=>el M i c).append [(M.getD (↑x:Int).toNat []).getD (↑c:Int).toNat 0]=aA x' fun (i:Nat)=>el M i
 c)/\x'<=M.length/\M.length-x'<M.length-x else (aA x fun (i:Nat)=>el M i c)=aA M.length fun (i:Nat)=>el M i c
theorem R4 (M:LM) (c:Nat):aw Lv [] (XM M c) Tryz.f49 (.k (.list .rq) (aA M.length fun i=>el M i c)) [.k (.list (.list .rq)) M,.k (.int .i64) ((c:Nat):Int)]=Lz M c:=by kernel_rfl
theorem R5 (M:LM) (c:Nat) (hg:∀i,i<M.length->c<(M.getD i []).length):Lz M c:=by unfold Lz;refine ⟨0,⟨⟨rfl,rfl,rfl⟩,rfl⟩,ia _,fun i hi hL=>aH (fun h=>⟨idx h,⟨by omega,Gg.2 (hg i (by omega))⟩,ky (by omega) hL,nQ (by omega) hL,i+1,⟨⟨rfl,rfl,rfl⟩,au5 rfl⟩,by omega,by omega⟩) fun h=>?_⟩;rw [show i=M.length by omega]
theorem R6:aoH (cfg []) XL:=cf pM bp Tryz.func49 (by kernel_rfl) fun args g r hn hc hg hf=>by
 replace hc:frCol args=some (g,r,hn):=hc;unfold frCol at hc;split at hc
 ·obtain ⟨rfl,rfl,rfl⟩:=aN hc;cases aY (R4 _ _) (R5 _ _ hg);exact ⟨rfl,by kernel_rfl,_,by assumption⟩
 ·cases hc
theorem ly {L:List az} {f:FuncId} {fr:Bool} {c c':CF} (h:aoH (cfg L) ⟨f,fr,c⟩) (H:∀args g r hn,c' args=some (g,r,hn)->bt g->∃g',c args=some (g',r,hn)/\bt g'):aoH (cfg L) ⟨f,fr,c'⟩:=
 ⟨h.mu,fun args g r hn hc hg=>by obtain ⟨g',h1,h2⟩:=H args g r hn hc hg;exact h.ok args g' r hn h1 h2⟩
noncomputable def LD2:List az:=ye::XL::Lv
theorem CZ:bd LD2:=⟨aCH,R6,pM⟩
noncomputable def LD:List az:=LD2
theorem pN:bd LD:=CZ
def C5:CF
 | [.k (.list (.list .rq)) M]=>some (none,T2 (.k (.list (.list .rq)) (bz (amP M) (aG (afM M) M.length fun i j=>el M j i))) (.k (.int .i64) (bu (amP M))),[])
 | _=>none
def NT:az:=⟨19,false,C5⟩
def Sa (M:LM):bk:=⟨nU,fun key_=>match key_ with
 | 5=>some (⟨Nat,fun i=>[(0,.k (.list (.list .rq)) M),(4,.own 4 0 1),(5,.k (.int .i64) ((i:Nat):Int))],
 fun i=>[(4,.arr 56 (.list .rq) (aG i M.length fun i j=>el M j i))],fun _ i=>i<=afM M/\amP M=true,fun i=>afM M-i⟩) | _=>none,nR,nU⟩
def C6 (M:LM):Prop:=bif !amP M then bz (amP M) (aG (afM M) M.length fun (i j:Nat)=>el M j i)=[]/\(5:Int)=bu (amP M) else ∃(x0:Nat),((M=M/\(0:Int)=(↑x0 :
 Int))/\(aG x0 M.length fun (i j:Nat)=>el M j i)=[])/\(x0<=afM M/\amP M=true)/\∀(x:Nat),x<=afM M/\amP M=true->((0:Int)<=(0:Int)/\(0
 : Int)<(↑M.length:Int))/\((M.getD (Int.toNat (0:Int)) []).length<=aB->bif decide ((↑x:Int)<(↑(M.getD (Int.toNat (0:Int)) []).length:Int)) then (∀(i :
 Nat),i<M.length->x<(M.getD i []).length)/\(aG x M.length fun (i j:Nat)=>el M j i).length+[aA M.length fun (i:Nat)=>el M i x].length<=aB /\
 ((-9223372036854775808:Int)<=(↑x:Int)+1/\(↑x:Int)+1<=(9223372036854775807:Int))/\∃(x':Nat),((M=M/\(↑x:Int)+1=(↑x' :
 Int))/\(aG x M.length fun (i j:Nat)=>el M j i).append [aA M.length fun (i:Nat)=>el M i x]=aG x' M.length fun (i j:Nat)=>el M j i)/\(x'<=afM M /\
 amP M=true)/\afM M-x'<afM M-x else (aG x M.length fun (i j:Nat)=>el M j i)=bz (amP M) (aG (afM M) M.length fun (i j:Nat)=>el M j i)/\(0
 : Int)=bu (amP M))
theorem LI (M:LM):aw LD [] (Sa M) Tryz.f19 (T2 (.k (.list (.list .rq)) (bz (amP M) (aG (afM M) M.length fun i j=>el M j i))) (.k (.int .i64) (bu (amP M)))) [.k (.list (.list .rq)) M]=C6 M:=by kernel_rfl
theorem LJ (M:LM) (hf:cJ [.k (.list (.list .rq)) M]):C6 M:=by
 unfold C6;refine en (fun h=>?_) fun h=>?_
 ·rw [h];exact ⟨rfl,rfl⟩
 ·obtain ⟨h1,h2,h3⟩:=ba h;refine ⟨0,⟨⟨rfl,rfl⟩,rfl⟩,⟨ia _,h⟩,fun i ⟨hi,_⟩=>⟨⟨by omega,by omega⟩,fun hL=>?_⟩⟩;have hL:afM M<=aB:=hL;refine aH (fun h'=>?_) fun h'=>?_
  ·have h':i<afM M:=Gg.1 h';exact ⟨fun j hj=>by rw [h3 j hj];exact h',ky h' hL,nQ h' hL,i+1,⟨⟨rfl,rfl⟩,au5 rfl⟩,⟨by omega,h⟩,by omega⟩
  ·have h':¬i<afM M:=fun e=>h' (Gg.2 e);rw [show i=afM M by omega,h];exact ⟨rfl,rfl⟩
theorem LK:aoH (cfg []) NT:=cf pN bp Tryz.func19 (by kernel_rfl) fun args g r hn hc hg hf=>by
 replace hc:C5 args=some (g,r,hn):=hc;unfold C5 at hc;split at hc
 ·obtain ⟨rfl,rfl,rfl⟩:=aN hc;cases aY (LI _) (LJ _ hf);exact ⟨rfl,by kernel_rfl,_,by assumption⟩
 ·cases hc
def iY (M:LM):Bool:=bif aI M then decide (∀i,i<M.length->∀j,j<i->el M i j=el M j i) else false
def cfEyeI:az:=⟨37,false,fun args=>match args with
 | [.k (.int .i64) n,.k (.int .i64) m,.fn 75 .nil]=>some (some ((0:Int)<=n/\(0:Int)<=m/\Int.toNat n<=aB/\Int.toNat m<=aB),.own 0 0 1,[.bc 36 45 .q (bh (Int.toNat n) (Int.toNat n)) (bD (Int.toNat n) (Int.toNat m) iP)])
 | _=>none⟩
theorem LQ:aoH (cfg []) cfEyeI:=ly RH fun args g r hn hc hg=>by
 split at hc
 ·rename_i n m;obtain ⟨rfl,rfl,rfl⟩:=aN hc;obtain ⟨h1,h2,h3,h4⟩:=hg;obtain ⟨a,rfl⟩:=Aa h1;obtain ⟨b,rfl⟩:=Aa h2;exact ⟨_,rfl,h3,h4⟩
 ·cases hc
theorem half {r:Nat} (h:r<=64):(2:Int)≠0/\ax ((r:Int).tdiv 2):=by rw [Gi (by omega)];exact ⟨by omega,by unfold ax;omega⟩
theorem G9 {M:LM} (h:aI M=false):false=iY M:=by unfold iY;rw [h];rfl
theorem Ha {M:LM} {i j:Nat} (hi:i<M.length) (hj:j<i) (h:el M i j≠el M j i):false=iY M:=by
 unfold iY
 cases aI M with
 | false=>rfl
 | true=>exact (tS fun e=>h (e i hi j hj)).symm
theorem AA {M:LM} (h:aI M=true) (h':∀i,i<M.length->∀j,j<i->el M i j=el M j i):true=iY M:=by unfold iY;rw [h];exact (xX h').symm
theorem vw {M:LM} {a b n:Nat} (h:(M.getD a []).length=n) (hb:b<n):(b:Int)<(((M.getD ((a:Int)).toNat []).length:Nat):Int):=Gg.2 (by show b<(M.getD a []).length;omega)
noncomputable def XW:List az:=tO::Ke::[]
theorem vx:bd XW:=⟨sA,z7,trivial⟩
def fsClone:CF
 | [.k (.list .q) xs]=>some (none,.own 0 0 5,[.arr 45 .q xs])
 | _=>none
def Hb:az:=⟨57,false,fsClone⟩
def LS (xs:List Rat):bk:=⟨nU,nL,nR,nU⟩
def yt (xs:List Rat):Prop:=∀b:Bool,(b=true->xs=[])->bif (bif true then b else !b) then xs=[] else ([]:List Rat).length+xs.length<=aB/\([]:List Rat).append xs=xs
theorem Hc (xs:List Rat):awp (cfg XW []) (LS xs) Tryz.f57.ntmps (Tryz.f57.body.getD .skip) (auW Tryz.f57.results.toList (.own 0 0 5) 5 (.arr 45 .q xs)) ⟨aqq 0 [.k (.list .q) xs],[]⟩=yt xs:=by kernel_rfl
theorem Hd (xs:List Rat) (hf:cJ [.k (.list .q) xs]):yt xs:=by
 unfold yt;intro b hb
 cases b with
 | true=>exact hb rfl
 | false=>exact ⟨by have h:xs.length<=aB:=hf.1.1;simpa using h,rfl⟩
theorem He:aoH (cfg []) Hb:=oY vx bp Tryz.func57 (by kernel_rfl) (by kernel_rfl) rfl fun args g r hn hc hg hf=>by
 replace hc:fsClone args=some (g,r,hn):=hc;unfold fsClone at hc;split at hc
 ·obtain ⟨rfl,rfl,rfl⟩:=aN hc;have hv:=Hd _ hf
  cases aY (Hc _) hv;exact ⟨by kernel_rfl,_,5,_,rfl,rfl,rfl,by assumption⟩
 ·cases hc
def fmSym:CF
 | [.k (.list (.list .q)) M]=>some (some (SM BQ M),.k .bool (iY M),[])
 | _=>none
def XX:az:=⟨24,false,fmSym⟩
def XY (M:LM):bk:=⟨fun key_=>match key_ with | 9=>11 | _=>0,fun key_=>match key_ with
 | 4=>some (⟨Nat,fun i=>[(0,.k (.list (.list .q)) M),(9,.k (.list (.list .q)) M),(10,.k (.int .i64) ((M.length:Nat):Int)),(11,.k (.int .i64) ((i:Nat):Int))],
 fun i=>[],fun _ i=>i<=M.length/\aI M=true/\∀k,k<i->∀j,j<k->el M k j=el M j k,fun i=>M.length-i⟩)
 | 7=>some (⟨Nat×Nat,fun p=>[(0,.k (.list (.list .q)) M),(3,.k (.int .i64) ((p.1:Nat):Int)),(4,.k (.list .q) (M.getD p.1 [])),(9,.k (.list (.list .q)) M),(10,.k (.int .i64) ((M.length:Nat):Int)),(11,.k (.int .i64) ((p.1:Nat):Int)),(16,.k (.int .i64) ((p.1:Nat):Int)),(17,.k (.int .i64) ((p.2:Nat):Int))],
 fun p=>[],fun q p=>p.1=q.1/\p.1<M.length/\p.2<=p.1/\aI M=true/\(∀k,k<p.1->∀j,j<k->el M k j=el M j k)/\∀j,j<p.2->el M p.1 j=el M j p.1,fun p=>p.1-p.2⟩) | _=>none,nR,nU⟩
def LU (M:LM):Prop:=bif !aI M then false=iY M else M.length<=aB->∃(x0:Nat),(M=M/\M=M/\(↑M.length:Int)=↑M.length/\(0:Int)=(↑x0:Int))/\(x0<=M.length
 /\ aI M=true/\∀(k:Nat),k<x0->∀(j:Nat),j<k->el M k j=el M j k)/\∀(x:Nat),(x<=M.length/\aI M=true/\∀(k:Nat),k<x->∀(j:Nat),j
 < k->el M k j=el M j k)->bif decide ((↑x:Int)<↑M.length) then (0<=(↑x:Int)/\(↑x:Int)<↑M.length)/\∃(x0:Nat×Nat),(M=M/\(↑x
 : Int)=(↑x0.fst:Int)/\M.getD (↑x:Int).toNat []=M.getD x0.fst []/\M=M/\(↑M.length:Int)=↑M.length/\(↑x:Int)=↑x0.fst/\(↑x:Int) =
 (↑x0.fst:Int)/\(0:Int)=(↑x0.snd:Int))/\(x0.fst=x0.fst/\x0.fst<M.length/\x0.snd<=x0.fst/\aI M=true/\(∀(k:Nat),k<x0.fst->∀(j:Nat),j<k
 -> el M k j=el M j k)/\∀(j:Nat),j<x0.snd->el M x0.fst j=el M j x0.fst)/\∀(au:Nat×Nat),(au.fst=x0.fst/\au.fst<M.length/\au.snd<=au.fst /\
 aI M=true/\(∀(k:Nat),k<au.fst->∀(j:Nat),j<k->el M k j=el M j k)/\∀(j:Nat),j<au.snd->el M au.fst j=el M j au.fst)->bif decide
 ((↑au.snd:Int)<↑au.fst) then (0<=(↑au.snd:Int)/\(↑au.snd:Int)<↑(M.getD au.fst []).length)/\(0<=(↑au.snd:Int) /\
 (↑au.snd:Int)<↑M.length)/\(0<=(↑au.fst:Int)/\(↑au.fst:Int)<↑(M.getD (↑au.snd:Int).toNat []).length)/\(Sq BQ ((M.getD au.fst
 []).getD (↑au.snd:Int).toNat 0)/\Sq BQ ((M.getD (↑au.snd:Int).toNat []).getD (↑au.fst:Int).toNat 0))/\bif !decide (fS ((M.getD au.fst
 []).getD (↑au.snd:Int).toNat 0) ((M.getD (↑au.snd:Int).toNat []).getD (↑au.fst:Int).toNat 0)=0) then false=iY M else ax
 ((↑au.snd:Int)+1)/\∃(x':Nat×Nat),(M=M/\(↑au.fst:Int)=↑x'.fst/\M.getD au.fst []=M.getD x'.fst []/\M=M/\(↑M.length:Int) =
 (↑M.length:Int)/\(↑au.fst:Int)=↑x'.fst/\(↑au.fst:Int)=↑x'.fst/\(↑au.snd:Int)+1=↑x'.snd)/\(x'.fst=x0.fst/\x'.fst
 < M.length/\x'.snd<=x'.fst/\aI M=true/\(∀(k:Nat),k<x'.fst->∀(j:Nat),j<k->el M k j=el M j k)/\∀(j:Nat),j<x'.snd->el M x'.fst j=el M j
 x'.fst)/\x'.fst-x'.snd<au.fst-au.snd else ax ((↑au.fst:Int)+1)/\∃(x':Nat),(M=M/\M=M/\(↑M.length:Int)=↑M.length/\(↑au.fst
 : Int)+(1:Int)=(↑x':Int))/\(x'<=M.length/\aI M=true/\∀(k:Nat),k<x'->∀(j:Nat),j<k->el M k j=el M j k)/\M.length-x'<M.length-x
 else true=iY M
theorem Sf (M:LM):aw XW [] (XY M) Tryz.f24 (.k .bool (iY M)) [.k (.list (.list .q)) M]=LU M:=by kernel_rfl
theorem Sg (M:LM) (hg:SM BQ M):LU M:=by
 unfold LU;refine en (fun h=>G9 h) fun hs=>by
  unfold aB;intro hL;obtain ⟨_,h1,h2,h3⟩:=iQ hs;refine ⟨0,⟨rfl,rfl,rfl,rfl⟩,⟨ia _,hs,fun k hk=>by omega⟩,fun i ⟨hi,_,bB⟩=>aH (fun h=>⟨idx h,⟨(i,0),⟨rfl,rfl,rfl,rfl,rfl,rfl,rfl,rfl⟩,⟨rfl,by show i<_;omega,ia _,hs,bB,fun j hj=>absurd hj (pw j)⟩,fun ⟨a,b⟩ ⟨kv,ha,hb,_,hl,hr⟩=>?_⟩⟩) fun h=>?_⟩
  ·dsimp only at kv ha hb hl hr ⊢;have Bn:M.length<=1099511627776:=hL;refine aH (fun h'=>⟨⟨by omega,vw (h3 a ha) (by omega)⟩,⟨by omega,by omega⟩,⟨by omega,vw (h3 b (by omega)) (by omega)⟩,⟨hg.el a b,hg.el b a⟩,dP (fun h4=>?_) fun h4=>⟨⟨by omega,by omega⟩,(a,b+1),⟨rfl,rfl,rfl,rfl,rfl,rfl,rfl,rfl⟩,⟨kv,ha,by show b+1<=a;omega,hs,hl,fun j hj=>?_⟩,by show a-(b+1)<a-b;omega⟩⟩) fun h'=>⟨⟨by omega,by omega⟩,a+1,⟨rfl,rfl,rfl,rfl⟩,⟨by omega,hs,fun k hk j hj=>?_⟩,by omega⟩
   ·exact Ha ha (show b<a by omega) fun e=>h4 (gz.2 e)
   ·rcases dz j b with h5 | h5
    ·exact hr j h5
    ·rw [show j=b from G6 (Nat.le_of_lt_succ hj) h5];exact gz.1 h4
   ·rcases dz k a with h5 | h5
    ·exact hl k h5 j hj
    ·have e:k=a:=by omega
     subst e;exact hr j (by omega)
  ·exact AA hs fun k hk=>bB k (by omega)
theorem Sh:aoH (cfg []) XX:=cf vx bp Tryz.func24 (by kernel_rfl) fun args g r hn hc hg hf=>by
 replace hc:fmSym args=some (g,r,hn):=hc;unfold fmSym at hc;split at hc
 ·obtain ⟨rfl,rfl,rfl⟩:=aN hc;cases aY (Sf _) (Sg _ hg);exact ⟨rfl,by kernel_rfl,_,by assumption⟩
 ·cases hc
noncomputable def LE2:List az:=Hb::XW
theorem C9:bd LE2:=⟨He,vx⟩
def Da:CF
 | [.k (.list (.list .q)) M]=>some (none,.own 0 0 1,[.bc 36 45 .q (bh M.length M.length) ([]::M)])
 | _=>none
def aBQ:az:=⟨25,false,Da⟩
def Sj (M:LM):bk:=⟨nU,fun key_=>match key_ with
 | 3=>some (⟨Nat,fun i=>[(3,.own 8 0 1),(9,.k (.list (.list .q)) M),(10,.k (.int .i64) ((M.length:Nat):Int)),(11,.k (.int .i64) ((i:Nat):Int))],
 fun i=>[(8,.bc 36 45 .q (bh M.length i) ([]::M.take i))],fun _ i=>i<=M.length,fun i=>M.length-i⟩) | _=>none,nR,nU⟩
def Db (M:LM):Prop:=M.length<=aB->(0<=(↑M.length:Int)/\(↑M.length:Int)<=(↑M.length:Int)/\(↑M.length:Int)<=(1099511627776:Int))/\(M.length<=aB->∃(x0:Nat),((M
 = M/\(↑M.length:Int)=↑M.length/\(0:Int)=(↑x0:Int))/\List.replicate (↑M.length:Int).toNat (0:Nat)=bh M.length x0/\[[]]=[]::List.take x0
 M)/\x0<=M.length/\∀(x:Nat),x<=M.length->bif decide ((↑x:Int)<↑M.length) then (0<=(↑x:Int)/\(↑x:Int)<↑M.length)/\((0:Int) <=
 (↑x:Int)/\(↑x:Int)<↑(bh M.length x).length)/\((↑x:Int).toNat<(bh M.length x).length/\([]::List.take x M).length<([]::List.take x M ++
 [M.getD (↑x:Int).toNat []]).length)/\ax ((↑x:Int)+1)/\∃(x':Nat),((M=M/\(↑M.length:Int)=↑M.length/\(↑x:Int)+1=(↑x' :
 Int))/\(bh M.length x).set (↑x:Int).toNat (([]::List.take x M).length)=bh M.length x'/\[]::List.take x M++[M.getD (↑x:Int).toNat []]=[]::List.take
 x' M)/\x'<=M.length/\M.length-x'<M.length-x else bh M.length x=bh M.length M.length/\[]::List.take x M=[]::M)
theorem LY (M:LM):awp (cfg LE2 []) (Sj M) Tryz.f25.ntmps (Tryz.f25.body.getD .skip) (auW Tryz.f25.results.toList (.own 0 0 1) 8 (.bc 36 45 .q (bh M.length M.length) ([]::M))) ⟨aqq 0 [.k (.list (.list .q)) M],[]⟩=Db M:=by kernel_rfl
theorem LZ (M:LM) (hf:cJ [.k (.list (.list .q)) M]):Db M:=by
 unfold Db;intro hL;have Bn:=hL;unfold aB at Bn;refine ⟨⟨by omega,by omega,by omega⟩,fun _=>⟨0,⟨⟨rfl,rfl,rfl⟩,x8 _,rfl⟩,ia _,fun i hi=>aH (fun h=>?_) fun h=>?_⟩⟩
 ·have cw:i<M.length:=by omega
  refine ⟨idx h,⟨by omega,by rw [aqK];omega⟩,⟨by rw [aqK];exact cw,by simp⟩,nQ cw hL,i+1,⟨⟨rfl,rfl,rfl⟩,?_,?_⟩,by omega,by omega⟩
  ·rw [show ([]::List.take i M).length=i+1 by simp;omega];exact As cw
  ·exact Ga (List.cons []) (qW cw)
 ·rw [show i=M.length by omega,x9];exact ⟨rfl,rfl⟩
theorem L6:aoH (cfg []) aBQ:=oY C9 bp Tryz.func25 (by kernel_rfl) (by kernel_rfl) rfl fun args g r hn hc hg hf=>by
 replace hc:Da args=some (g,r,hn):=hc;unfold Da at hc;split at hc
 ·obtain ⟨rfl,rfl,rfl⟩:=aN hc;have hv:=LZ _ hf
  cases aY (LY _) hv;exact ⟨by kernel_rfl,_,8,_,rfl,rfl,rfl,by assumption⟩
 ·cases hc
open Go.ChangeShapes Go.WideShapes Go.ChangeAt
abbrev Any:Nat->Prop:=fun _=>True
theorem Mg {ct:az} {args:List AV} {g:Option Prop} (h:aoH (cfg []) ct) (hc:ct.c args=some (g,.k .bool true,[])) (hg:bt g) {w:World} {vs:List Value} (ht:cK w) (hv:VL Any w dX args vs) :
  Calls Tryz.prog ct.f vs.toArray w fun e w'=>e = .returned (.bool true)/\Ext w w':=
 (h.ok args g _ [] hc hg Any w vs ht hv).mono fun e w' ⟨v, β',he,hm,hr⟩=>by obtain ⟨c,hc,hv⟩:=hr;have hc:c=[.bool true]:=hc;subst hc;exact ⟨by rw [he,hv];rfl,hm.fr.ext⟩
theorem wf_i64 {n:Int} (h:(Lit.int .i64 n).wf=true):ax n:=by simp only [Lit.wf,fh,Cr] at h;exact h
theorem yu:∀zs:List Int,(zs.map fun n=>[Value.int .i64 n]).flatten=zs.map fun n=>Value.int .i64 n
 | []=>rfl
 | z::zs=>by rw [Gl,Hg,yu zs];rfl
section
variable {H:Type} {enc:TypeId×Value->H} {W:World} {base:Nat} {v:Value} {d:DataW H} {p:List MemPlace} {t e:TypeId}
theorem Mh (ht:Tryz.prog.underlying t=some (.slice e)) (he:Tryz.prog.underlying e=some (.int .i64)) (hc:Tryz.prog.cellsOf e=1) {fuel:Nat} {cs:List Value} {x:DataW H×List MemPlace} (h:DataW.trod enc Tryz.prog W 0 (fun _=>true) true fuel t cs=some x) :
  ∃l:List Int,bj Any W (.list (.int .i64)) l cs/\∀i,ax (l.getD i 0):=by
 rcases open_ints ht he hc h with ⟨lz,_⟩ | ⟨a,len,cap,zs,lz,_,hl,hm,hz,_,aK,hwz⟩
 ·exact ⟨[],⟨none,0,lz,eM _,ia _,fun ay=>absurd rfl ay⟩,fun i=>by show ax 0;unfold ax;omega⟩
 ·simp only [if_true] at hz
  have hlen:(zs.take len).length=len:=by rw [qX];omega
  refine ⟨zs.take len,⟨some a,cap,by rw [hlen];exact lz,by rw [hlen];exact hl,by rw [hlen];exact jW hl hm,fun ay=>?_⟩,fun i=>?_⟩
  ·have h0:0<len:=by
    rcases nP len with h | h
    ·subst h;simp at ay
    ·exact h
   obtain ⟨ab,ao,spot⟩:=a
   have adt:spot=none:=by simpa [Addr.add] using World.cell?_spot (aK 0 (by omega))
   subst adt
   refine ⟨ab,ao,(zs.take len).map fun n=>[Value.int .i64 n],rfl,trivial,?_,fun i hi=>?_,by simp,fun i x c hx hc=>?_⟩
   ·have h:=aK 0 (by omega)
    rw [Addr.add_lit] at h
    exact World.block_lt_of_cell? W _ h
   ·rw [yu] at hi ⊢
    rw [yv,hlen] at hi
    have hcj:=aK i (by omega)
    rw [Addr.add_lit] at hcj
    rw [hcj,Af,yk hi]
    have OK:i<zs.length:=by omega
    rw [gA OK]
    simp [aV,gA OK]
   ·rw [Af,hx] at hc
    injection hc with hc
    exact hc.symm
  ·rcases dz i (zs.take len).length with hi | hi
   ·rw [aV,gA hi]
    exact wf_i64 (hwz _ (List.mem_of_mem_take (Lb hi)))
   ·rw [aV,nS hi]
    show ax 0
    unfold ax;omega
theorem aet (ht:Tryz.prog.underlying t=some (.slice e)) (he:Tryz.prog.underlying e=some (.int .i64)) (hc:Tryz.prog.cellsOf e=1) (fV:Value.okWide Tryz.prog W .any base t v) (h:DataW.Trod enc Tryz.prog W 0 (fun _=>true) true t v d p) :
  ∃l:List Int,aoI Any W dX (.k (.list (.int .i64)) l) v/\∀i,ax (l.getD i 0):=by
 obtain ⟨a1,len,cap,rfl⟩:=okWide_slice ht fV
 obtain ⟨fuel,hf⟩:=h
 obtain ⟨l,h1,h2⟩:=Mh ht he hc hf
 exact ⟨l,⟨_,h1,rfl⟩,h2⟩
end
def pivN (F:Nat->Nat->Rat) (c:Nat):Nat->Nat->Nat
 | i,0=>i
 | i,k+1=>if F i c=0 then pivN F c (i+1) k else i
def dk (F:Nat->Nat->Rat) (a b:Nat):Nat->Nat->Rat:=fun i=>if i=a then F b else if i=b then F a else F i
def wa (F:Nat->Nat->Rat) (r:Nat) (k:Rat):Nat->Nat->Rat:=fun i j=>if i=r then F i j*k else F i j
def abA (F:Nat->Nat->Rat) (r c:Nat):Nat->Nat->Rat:=fun i j=>if i=r then F i j else F i j-F i c*F r j
def abv (n:Nat) (S:(Nat->Nat->Rat)×List Nat) (c:Nat):(Nat->Nat->Rat)×List Nat:=
 if pivN S.1 c S.2.length (n-S.2.length)<n then
  (abA (wa (dk S.1 S.2.length (pivN S.1 c S.2.length (n-S.2.length))) S.2.length (1/dk S.1 S.2.length (pivN S.1 c S.2.length (n-S.2.length)) S.2.length c)) S.2.length c,S.2++[c])
 else S
def rr (n:Nat) (F:Nat->Nat->Rat):Nat->(Nat->Nat->Rat)×List Nat
 | 0=>(F,[])
 | c+1=>abv n (rr n F c) c
theorem acn (F:Nat->Nat->Rat) (c:Nat):∀k i,i<=pivN F c i k/\pivN F c i k<=i+k
 | 0,i=>by simp [pivN]
 | k+1,i=>by have:=acn F c k (i+1);unfold pivN;split <;> omega
theorem acx {F:Nat->Nat->Rat} {c:Nat}:∀{k i},pivN F c i k<i+k->F (pivN F c i k) c≠0
 | 0,i,h=>by simp [pivN] at h
 | k+1,i,h=>by
  unfold pivN at h ⊢;split
  ·rename_i h0;rw [eJ h0] at h;exact acx (by omega)
  ·assumption
theorem ac8 {F:Nat->Nat->Rat} {c:Nat}:∀{k i j},i<=j->j<pivN F c i k->F j c=0
 | 0,i,j,h1,h2=>by simp [pivN] at h2;omega
 | k+1,i,j,h1,h2=>by
  unfold pivN at h2;split at h2
  ·rename_i h0;rcases dz i j with h3 | h3
   ·exact ac8 (by omega) h2
   ·rw [show j=i by omega];exact h0
  ·omega
theorem agc {n:Nat} {S:(Nat->Nat->Rat)×List Nat} {c:Nat} (h:S.2.length<=n):(abv n S c).2.length<=n/\S.2.length<=(abv n S c).2.length:=by
 unfold abv;have:=acn S.1 c (n-S.2.length) S.2.length;split
 ·simp;omega
 ·omega
theorem acG (n:Nat) (F:Nat->Nat->Rat):∀c,(rr n F c).2.length<=n
 | 0=>ia n
 | c+1=>(agc (acG n F c)).1
theorem ais {n s:Nat} {S:(Nat->Nat->Rat)×List Nat} (hs:1<=s) (h:∀i j,Sq s (S.1 i j)) (c:Nat) (hn:S.2.length<=n):∀i j,Sq (5*s) ((abv n S c).1 i j):=by
 unfold abv;split
 ·rename_i hp;have hsw:∀i j,Sq s (dk S.1 S.2.length (pivN S.1 c S.2.length (n-S.2.length)) i j):=fun i j=>by
   unfold dk;split
   ·exact h _ _
   ·split
    ·exact h _ _
    ·exact h _ _
  have ay:dk S.1 S.2.length (pivN S.1 c S.2.length (n-S.2.length)) S.2.length c≠0:=by unfold dk;rw [eJ rfl];exact acx (by omega)
  have h1:Sq s (1:Rat):=Sq.int (n:=1) (Sm.one.le hs) hs;have hk:=h1.div (hsw S.2.length c) ay;generalize dk S.1 S.2.length (pivN S.1 c S.2.length (n-S.2.length))=G at *
  generalize S.2.length=r at *
  have hinv:Sq s (1/G r c):=by rw [Cg,Gc];exact (hsw r c).inv ay
  have hsc:∀i j,Sq (2*s) (wa G r (1/G r c) i j):=fun i j=>by
   unfold wa;split
   ·exact ((hsw i j).mul hinv).le (by omega)
   ·exact (hsw i j).le (by omega)
  have agd:∀i j,i≠r->Sq s (wa G r (1/G r c) i j):=fun i j hi=>by unfold wa;rw [cM hi];exact hsw i j
  intro i j;show Sq (5*s) (abA (wa G r (1/G r c)) r c i j);unfold abA;split
  ·exact (hsc i j).le (by omega)
  ·rename_i hi;exact ((agd i j hi).sub ((agd i c hi).mul (hsc r j))).le (by omega)
 ·exact fun i j=>(h i j).le (by omega)
theorem afy {n s:Nat} {F:Nat->Nat->Rat} (hs:1<=s) (h:∀i j,Sq s (F i j)):∀c i j,Sq (s*5^c) ((rr n F c).1 i j)
 | 0=>fun i j=>(h i j).le (by simp)
 | c+1=>fun i j=>by
  have h1:=ais (n:=n) (FX hs (tR (n:=c) (show 0<5 by omega))) (afy hs h c) c (acG n F c) i j;have h2:s*5^(c+1)=5*(s*5^c):=by rw [pj, <- qU,ja]
  rw [h2];exact h1
theorem acj {f:Nat->Rat}:∀{n:Nat},(∀i,i<n->f i=0)->sumN f n=0
 | 0,_=>rfl
 | n+1,h=>by rw [sumN,acj fun i hi=>h i (by omega),h n (by omega)];grind
theorem ace {f:Nat->Rat} {a:Nat}:∀{n:Nat},a<n->(∀i,i<n->i≠a->f i=0)->sumN f n=f a
 | n+1,ha,h=>by
  rw [sumN];by_cases e:a=n
  ·subst e;rw [acj fun i hi=>h i (by omega) (by omega)];grind
  ·rw [ace (by omega) fun i hi=>h i (by omega),h n (by omega) (fun e'=>e e'.symm)];grind
theorem afa {f:Nat->Rat} {a b:Nat} (iL:a≠b):∀{n:Nat},a<n->b<n->(∀i,i<n->i≠a->i≠b->f i=0)->sumN f n=f a+f b
 | n+1,ha,hb,h=>by
  rw [sumN];by_cases e:a=n
  ·subst e;rw [ace (a:=b) (by omega) fun i hi ay=>h i (by omega) (by omega) ay];grind
  ·by_cases e2:b=n
   ·subst e2;rw [ace (a:=a) (by omega) fun i hi ay=>h i (by omega) ay (by omega)]
   ·rw [afa iL (by omega) (by omega) fun i hi=>h i (by omega),h n (by omega) (fun e'=>e e'.symm) (fun e'=>e2 e'.symm)];grind
theorem acw (f g:Nat->Rat):∀n,sumN (fun i=>f i+g i) n=sumN f n+sumN g n
 | 0=>by simp only [sumN];grind
 | n+1=>by simp only [sumN];rw [acw f g n];grind
theorem abC (k:Rat) (f:Nat->Rat):∀n,sumN (fun i=>k*f i) n=k*sumN f n
 | 0=>by simp only [sumN];grind
 | n+1=>by simp only [sumN];rw [abC k f n];grind
def Ker (n m:Nat) (F:Nat->Nat->Rat) (x:Nat->Rat):Prop:=∀i,i<n->sumN (fun j=>F i j*x j) m=0
theorem ahC {n m a b:Nat} {F:Nat->Nat->Rat} {x:Nat->Rat} (ha:a<n) (hb:b<n):Ker n m (dk F a b) x↔Ker n m F x:=by
 constructor
 ·intro h i hi;by_cases e1:i=a
  ·have:=h b hb;unfold dk at this;by_cases e2:b=a
   ·rw [eJ e2] at this;rw [e1, <- e2];exact this
   ·rw [cM e2,eJ rfl] at this;rw [e1];exact this
  ·by_cases e2:i=b
   ·have:=h a ha;unfold dk at this;rw [eJ rfl] at this;rw [e2];exact this
   ·have:=h i hi;unfold dk at this;rw [cM e1,cM e2] at this;exact this
 ·intro h i hi;unfold dk;split
  ·exact h b hb
  ·split
   ·exact h a ha
   ·exact h i hi
theorem agJ {n m r:Nat} {F:Nat->Nat->Rat} {k:Rat} (hk:k≠0) {x:Nat->Rat}:Ker n m (wa F r k) x↔Ker n m F x:=by
 have e:∀i,sumN (fun j=>wa F r k i j*x j) m=if i=r then k*sumN (fun j=>F i j*x j) m else sumN (fun j=>F i j*x j) m:=fun i=>by
  unfold wa;split
  ·rw [<-abC];exact uv fun j _=>by grind
  ·rfl
 constructor
 ·intro h i hi;have:=h i hi;rw [e] at this;split at this
  ·rcases Lx.1 this with h1 | h1
   ·exact absurd h1 hk
   ·exact h1
  ·exact this
 ·intro h i hi;rw [e,h i hi];split
  ·grind
  ·rfl
theorem ahD {n m r c:Nat} {F:Nat->Nat->Rat} (hr:r<n) {x:Nat->Rat}:Ker n m (abA F r c) x↔Ker n m F x:=by
 have e:∀i,sumN (fun j=>abA F r c i j*x j) m=if i=r then sumN (fun j=>F i j*x j) m else sumN (fun j=>F i j*x j) m+(-(F i c))*sumN (fun j=>F r j*x j) m:=fun i=>by
  unfold abA;split
  ·rfl
  ·rw [<-abC, <- acw];exact uv fun j _=>by grind
 constructor
 ·intro h i hi;have h1:=h r hr;rw [e,eJ rfl] at h1;have h2:=h i hi;rw [e] at h2;split at h2
  ·exact h2
  ·rw [h1] at h2;grind
 ·intro h i hi;rw [e,h i hi];split
  ·rfl
  ·rw [h r hr];grind
structure acs (n c:Nat) (F:Nat->Nat->Rat) (l:List Nat):Prop where
 len:l.length<=n
 lt:∀k,k<l.length->l.getD k 0<c
 inc:∀k k',k<k'->k'<l.length->l.getD k 0<l.getD k' 0
 one:∀k i,k<l.length->i<n->F i (l.getD k 0)=if i=k then 1 else 0
 pre:∀k j,k<l.length->j<l.getD k 0->F k j=0
 low:∀i j,l.length<=i->i<n->j<c->F i j=0
theorem acs.zero (n:Nat) (F:Nat->Nat->Rat):acs n 0 F []:=⟨ia n,fun k h=>absurd h (pw k),fun k k' _ h=>absurd h (pw k'),fun k _ h=>absurd h (pw k),fun k _ h=>absurd h (pw k),fun _ j _ _ h=>absurd h (pw j)⟩
theorem acs.step {n c:Nat} {S:(Nat->Nat->Rat)×List Nat} (h:acs n c S.1 S.2):acs n (c+1) (abv n S c).1 (abv n S c).2:=by
 obtain ⟨F,l⟩:=S;have h:acs n c F l:=h;unfold abv;dsimp only;have hp1:=acn F c (n-l.length) l.length;have hp2:= @acx F c (n-l.length) l.length;have hp3:= @ac8 F c (n-l.length) l.length;have hlen:=h.len;generalize pivN F c l.length (n-l.length)=p at *
 split
 ·rename_i hp;have ay:=hp2 (by omega);have hrn:l.length<n:=by omega
  generalize hr:l.length=r at *
  have hG:∀i j,r<=i->i<n->j<c->dk F r p i j=0:=fun i j h1 h2 h3=>by
   unfold dk;split
   ·exact h.low p j (by omega) hp h3
   ·split
    ·exact h.low r j (by omega) hrn h3
    ·exact h.low i j (by omega) h2 h3
  have hGs:∀i j,i<r->dk F r p i j=F i j:=fun i j h1=>by unfold dk;rw [cM (by omega),cM (by omega)]
  have hGr:dk F r p r c≠0:=by unfold dk;rw [eJ rfl];exact ay
  generalize dk F r p=G at *
  have hHr:wa G r (1/G r c) r c=1:=by unfold wa;rw [eJ rfl,Cg,Gc,GA _ hGr]
  have hH:∀i j,r<=i->i<n->j<c->wa G r (1/G r c) i j=0:=fun i j h1 h2 h3=>by
   unfold wa;split
   ·rw [hG i j h1 h2 h3];grind
   ·exact hG i j h1 h2 h3
  have hHs:∀i j,i<r->wa G r (1/G r c) i j=F i j:=fun i j h1=>by unfold wa;rw [cM (by omega)];exact hGs i j h1
  generalize wa G r (1/G r c)=H at *
  have hEr:∀j,abA H r c r j=H r j:=fun j=>by unfold abA;rw [eJ rfl]
  have hEi:∀i j,i≠r->abA H r c i j=H i j-H i c*H r j:=fun i j h1=>by unfold abA;rw [cM h1]
  have ha:∀k,k<r->(l++[c]).getD k 0=l.getD k 0:=fun k hk=>xT (by omega) 0;have hb:(l++[c]).getD r 0=c:=by rw [xU (by omega),hr,Hj];rfl
  have hL:(l++[c]).length=r+1:=by rw [iS,hr];rfl
  show acs n (c+1) (abA H r c) (l++[c]);refine ⟨by omega,fun k hk=>?_,fun k k' h1 h2=>?_,fun k i hk hi=>?_,fun k j hk hj=>?_,fun i j h1 h2 h3=>?_⟩
  ·rcases dz k r with h4 | h4
   ·rw [ha k h4];have:=h.lt k (by omega);omega
   ·rw [show k=r by omega,hb];omega
  ·rcases dz k' r with h4 | h4
   ·rw [ha k' h4,ha k (by omega)];exact h.inc k k' h1 (by omega)
   ·rw [show k'=r by omega,hb,ha k (by omega)];exact h.lt k (by omega)
  ·rcases dz k r with h4 | h4
   ·rw [ha k h4];have aU:=h.lt k (by omega);have hz:H r (l.getD k 0)=0:=hH r _ (eM r) hrn aU;by_cases e:i=r
    ·rw [e,hEr,hz,cM (by omega)]
    ·rw [hEi i _ e,hz];have:H i (l.getD k 0)=if i=k then 1 else 0:=by
      rcases dz i r with h5 | h5
      ·rw [hHs i _ h5];exact h.one k i (by omega) hi
      ·rw [hH i _ h5 hi aU,cM (by omega)]
     rw [this];grind
   ·have e:k=r:=by omega
    subst e;rw [hb];by_cases e:i=k
    ·rw [e,hEr,hHr,eJ rfl]
    ·rw [hEi i _ e,hHr,cM e];grind
  ·rcases dz k r with h4 | h4
   ·rw [ha k h4] at hj;have aU:=h.lt k (by omega);rw [hEi k _ (by omega),hHs k j h4,h.pre k j (by omega) hj,hH r j (eM r) hrn (by omega)];grind
   ·have e:k=r:=by omega
    subst e;rw [hb] at hj;rw [hEr];exact hH k j (eM k) hrn hj
  ·rw [hL] at h1;rw [hEi i _ (by omega)];rcases dz j c with h4 | h4
   ·rw [hH i j (by omega) h2 h4,hH r j (eM r) hrn h4];grind
   ·rw [show j=c by omega,hHr];grind
 ·rename_i hp;show acs n (c+1) F l;refine ⟨hlen,fun k hk=>by have:=h.lt k hk;omega,h.inc,h.one,h.pre,fun i j h1 h2 h3=>?_⟩;rcases dz j c with h4 | h4
  ·exact h.low i j h1 h2 h4
  ·rw [show j=c by omega];exact hp3 h1 (by omega)
theorem aca (n:Nat) (F:Nat->Nat->Rat):∀c,acs n c (rr n F c).1 (rr n F c).2
 | 0=>acs.zero n F
 | c+1=>(aca n F c).step
theorem ahE {n m c:Nat} {S:(Nat->Nat->Rat)×List Nat} (hn:S.2.length<=n) {x:Nat->Rat}:Ker n m (abv n S c).1 x↔Ker n m S.1 x:=by
 unfold abv;have hp1:=acn S.1 c (n-S.2.length) S.2.length;have hp2:= @acx S.1 c (n-S.2.length) S.2.length;generalize pivN S.1 c S.2.length (n-S.2.length)=p at *
 split
 ·rename_i hp;have hr:S.2.length<n:=by omega
  have ay:dk S.1 S.2.length p S.2.length c≠0:=by unfold dk;rw [eJ rfl];exact hp2 (by omega)
  have hk:1/dk S.1 S.2.length p S.2.length c≠0:=fun e=>by have:=GA _ ay;rw [Cg,Gc] at e;rw [e] at this;grind
  exact (ahD hr).trans ((agJ hk).trans (ahC hr hp))
 ·exact Iff.rfl
theorem aeM {n m:Nat} {F:Nat->Nat->Rat} {x:Nat->Rat}:∀c,Ker n m (rr n F c).1 x↔Ker n m F x
 | 0=>Iff.rfl
 | c+1=>(ahE (acG n F c)).trans (aeM c)
def acm (F:Nat->Nat->Rat) (l:List Nat) (j t:Nat):Rat:=if t=j then 1 else if l.idxOf t<l.length then -(F (l.idxOf t) j) else 0
theorem acs.idx {n c:Nat} {F:Nat->Nat->Rat} {l:List Nat} (h:acs n c F l) {k:Nat} (hk:k<l.length):l.idxOf (l.getD k 0)=k:=by
 have hm:l.getD k 0∈l:=Ao hk 0;have h1:l.idxOf (l.getD k 0)<l.length:=Mr hm;have h2:l.getD (l.idxOf (l.getD k 0)) 0=l.getD k 0:=by rw [aV,gA h1];exact List.getElem_idxOf h1
 rcases yl (l.idxOf (l.getD k 0)) k with h3 | h3 | h3
 ·have:=h.inc _ _ h3 hk;omega
 ·exact h3
 ·have:=h.inc _ _ h3 h1;omega
theorem ado {l:List Nat} {t:Nat} (h:l.idxOf t<l.length):l.getD (l.idxOf t) 0=t:=by rw [aV,gA h];exact List.getElem_idxOf h
theorem acs.col {n m:Nat} {F:Nat->Nat->Rat} {l:List Nat} (h:acs n m F l) {j:Nat} (hj:j<m) (hn:∀k,k<l.length->l.getD k 0≠j):Ker n m F (acm F l j):=by
 intro i hi;rcases dz i l.length with hil | hil
 ·have aU:=h.lt i hil;have ay:=hn i hil;rw [afa (a:=j) (b:=l.getD i 0) (fun e=>ay e.symm) hj aU fun t ht h1 h2=>?_]
  ·unfold acm;rw [eJ rfl,cM ay,h.idx hil,eJ hil,h.one i i hil hi,eJ rfl];grind
  ·unfold acm;rw [cM h1];by_cases h3:l.idxOf t<l.length
   ·have e:=ado h3;have:=h.one (l.idxOf t) i h3 hi;rw [e] at this;rw [this,cM (fun e'=>h2 (by rw [e',e]))];grind
   ·rw [cM h3];grind
 ·exact acj fun t ht=>by rw [h.low i t hil hi ht];grind
theorem age:∀{l l':List Nat},(∀k k',k<k'->k'<l.length->l.getD k 0<l.getD k' 0)->(∀k k',k<k'->k'<l'.length->l'.getD k 0<l'.getD k' 0)->(∀k,k<l.length->∃k',k'<l'.length/\l'.getD k' 0=l.getD k 0)->(∀k,k<l'.length->∃k',k'<l.length/\l.getD k' 0=l'.getD k 0)->l=l'
 | [],[],_,_,_,_=>rfl
 | [],b::l',_,_,_,h=>by obtain ⟨k,hk,_⟩:=h 0 (by simp);simp at hk
 | a::l,[],_,_,h,_=>by obtain ⟨k,hk,_⟩:=h 0 (by simp);simp at hk
 | a::l,b::l',h1,h2,h3,h4=>by
  have e:a=b:=by
   obtain ⟨k,hk,ek⟩:=h3 0 (by simp);obtain ⟨k',sF,ek'⟩:=h4 0 (by simp);have ek:(b::l').getD k 0=a:=ek;have ek':(a::l).getD k' 0=b:=ek';rcases nP k with e | e
   ·subst e;exact ek.symm
   ·have:=h2 0 k e hk;rcases nP k' with e' | e'
    ·subst e';exact ek'
    ·have h5:=h1 0 k' e' sF;have h6:(b::l').getD 0 0=b:=rfl;have h7:(a::l).getD 0 0=a:=rfl;omega
  subst e;congr 1;refine age (fun k k' hk sF=>h1 (k+1) (k'+1) (by omega) (by simpa using sF)) (fun k k' hk sF=>h2 (k+1) (k'+1) (by omega) (by simpa using sF)) (fun k hk=>?_) fun k hk=>?_
  ·obtain ⟨k',sF,e⟩:=h3 (k+1) (by simpa using hk)
   cases k' with
   | zero=>have:=h1 0 (k+1) (by omega) (by simpa using hk);rw [<-e] at this;exact absurd this (xZ _)
   | succ k'=>exact ⟨k',by simpa using sF,e⟩
  ·obtain ⟨k',sF,e⟩:=h4 (k+1) (by simpa using hk)
   cases k' with
   | zero=>have:=h2 0 (k+1) (by omega) (by simpa using hk);rw [<-e] at this;exact absurd this (xZ _)
   | succ k'=>exact ⟨k',by simpa using sF,e⟩
theorem akN (f:Nat->Nat->Rat) (n:Nat):∀m,sumN (fun i=>sumN (fun j=>f i j) m) n=sumN (fun j=>sumN (fun i=>f i j) n) m
 | 0=>acj fun _ _=>rfl
 | m+1=>by rw [sumN, <- akN f n m, <- acw];rfl
def abD (m:Nat) (A:Nat->Nat->Rat) (b:Nat->Rat):Nat->Nat->Rat:=fun i j=>if j<m then A i j else b i
def akD (m:Nat) (R:Nat->Nat->Rat) (l:List Nat) (t:Nat):Rat:=if l.idxOf t<l.length then R (l.idxOf t) m else 0
def sgn (i:Nat):Rat:=if i%2=0 then 1 else -1
theorem afb (i:Nat):sgn (i+1) = -sgn i:=by
 unfold sgn;by_cases h:i%2=0
 ·rw [eJ h,cM (by omega)]
 ·rw [cM h,eJ (by omega)];grind
def skip (i a:Nat):Nat:=if a<i then a else a+1
def sg2 (i a:Nat):Nat:=if a=i then i+1 else if a=i+1 then i else a
theorem abX {i a:Nat} (h:a<i):skip i a=a:=eJ h
theorem ab1 {i a:Nat} (h:¬a<i):skip i a=a+1:=cM h
theorem afC {i:Nat}:sg2 i i=i+1:=eJ rfl
theorem afD {i:Nat}:sg2 i (i+1)=i:=by unfold sg2;rw [cM (by omega),eJ rfl]
theorem acy {i a:Nat} (h:a≠i) (h':a≠i+1):sg2 i a=a:=by unfold sg2;rw [cM h,cM h']
theorem acK (F:Nat->Nat->Rat) (i a:Nat):dk F i (i+1) a=F (sg2 i a):=by
 unfold dk sg2;split
 ·rfl
 ·split <;> rfl
theorem sk0 (i a:Nat):sg2 i (skip i a)=skip (i+1) a:=by
 by_cases h:a<i
 ·rw [abX h,abX (by omega),acy (by omega) (by omega)]
 ·rw [ab1 h];by_cases h2:a=i
  ·subst h2;rw [afD,abX (by omega)]
  ·rw [acy (by omega) (by omega),ab1 (by omega)]
theorem sk1 (i a:Nat):sg2 i (skip (i+1) a)=skip i a:=by
 by_cases h:a<i
 ·rw [abX h,abX (by omega),acy (by omega) (by omega)]
 ·rw [ab1 h];by_cases h2:a=i
  ·subst h2;rw [abX (by omega),afC]
  ·rw [ab1 (by omega),acy (by omega) (by omega)]
theorem sk2 {i k:Nat} (h:k<=i) (a:Nat):sg2 (i+1) (skip k a)=skip k (sg2 i a):=by
 by_cases ha:a<k
 ·rw [abX ha,acy (by omega) (by omega),acy (by omega) (by omega),abX ha]
 ·rw [ab1 ha];by_cases h1:a=i
  ·subst h1;rw [afC,afC,ab1 (by omega)]
  ·by_cases h2:a=i+1
   ·subst h2;rw [afD,afD,ab1 (by omega)]
   ·rw [acy (by omega) (by omega),acy h1 h2,ab1 ha]
theorem sk3 {i k:Nat} (h:i+1<k) (a:Nat):sg2 i (skip k a)=skip k (sg2 i a):=by
 by_cases ha:a<k
 ·rw [abX ha];by_cases h1:a=i
  ·subst h1;rw [afC,abX (by omega)]
  ·by_cases h2:a=i+1
   ·subst h2;rw [afD,abX (by omega)]
   ·rw [acy h1 h2,abX ha]
 ·rw [ab1 ha,acy (by omega) (by omega),acy (by omega) (by omega),ab1 ha]
def aae (F:Nat->Nat->Rat) (i:Nat):Nat->Nat->Rat:=fun a b=>F (skip i a) (b+1)
def detF:Nat->(Nat->Nat->Rat)->Rat
 | 0,_=>1
 | n+1,F=>sumN (fun i=>sgn i*F i 0*detF n (aae F i)) (n+1)
theorem aag:∀{n:Nat} {F G:Nat->Nat->Rat},(∀i j,i<n->j<n->F i j=G i j)->detF n F=detF n G
 | 0,_,_,_=>rfl
 | n+1,F,G,h=>by
  unfold detF;refine uv fun i hi=>?_
  rw [h i 0 hi (by omega),aag (F:=aae F i) (G:=aae G i) fun a b ha hb=>?_];unfold aae;exact h _ _ (by unfold skip;split <;> omega) (by omega)
def setRow (F:Nat->Nat->Rat) (r:Nat) (v:Nat->Rat):Nat->Nat->Rat:=fun i=>if i=r then v else F i
theorem ac9 {F:Nat->Nat->Rat} {r i:Nat} {v:Nat->Rat} (h:i≠r):aae (setRow F r v) i=setRow (aae F i) (if r<i then r else r-1) (fun j=>v (j+1)):=by
 funext a b;unfold aae setRow;by_cases hr:r<i
 ·rw [eJ hr];by_cases e:a=r
  ·subst e;rw [abX hr,eJ rfl,eJ rfl]
  ·have:skip i a≠r:=by unfold skip;split <;> omega
   rw [cM this,cM e]
 ·rw [cM hr];by_cases e:a=r-1
  ·have:skip i a=r:=by unfold skip;split <;> omega
   rw [eJ this,eJ e]
  ·have:skip i a≠r:=by unfold skip;split <;> omega
   rw [cM this,cM e]
theorem acW {F:Nat->Nat->Rat} {r:Nat} {v:Nat->Rat}:aae (setRow F r v) r=aae F r:=by
 funext a b;unfold aae setRow;have:skip r a≠r:=by unfold skip;split <;> omega
 rw [cM this]
theorem acZ:∀{n r:Nat} {F:Nat->Nat->Rat} {u v:Nat->Rat} {k:Rat},r<n->detF n (setRow F r fun j=>u j+k*v j)=detF n (setRow F r u)+k*detF n (setRow F r v)
 | n+1,r,F,u,v,k,hr=>by
  unfold detF;rw [<-abC, <- acw];refine uv fun i hi=>?_
  by_cases e:i=r
  ·subst e;rw [acW,acW,acW];unfold setRow;rw [eJ rfl,eJ rfl,eJ rfl];grind
  ·rw [ac9 e,ac9 e,ac9 e];have ih:=acZ (n:=n) (r:=if r<i then r else r-1) (F:=aae F i) (u:=fun j=>u (j+1)) (v:=fun j=>v (j+1)) (k:=k) (by split <;> omega);rw [ih];have h0:∀w:Nat->Rat,setRow F r w i 0=F i 0:=fun w=>by unfold setRow;rw [cM e]
   rw [h0,h0,h0];grind
theorem afc (f:Nat->Rat) (i:Nat):∀n,i+1<n->sumN (fun k=>f (if k=i then i+1 else if k=i+1 then i else k)) n=sumN f n
 | n+1,h=>by
  by_cases e:n=i+1
  ·subst e;rw [sumN,sumN,sumN,sumN,eJ rfl,cM (by omega),eJ rfl];rw [uv (n:=i) (g:=f) fun k hk=>by rw [cM (by omega),cM (by omega)]];grind
  ·rw [sumN,sumN,afc f i n (by omega),cM (by omega),cM (by omega)]
theorem acL:∀{n i:Nat} {F:Nat->Nat->Rat},i+1<n->detF n (dk F i (i+1)) = -detF n F
 | n+1,i,F,hi=>by
  have hs:∀k,k<n+1->sgn k*dk F i (i+1) k 0*detF n (aae (dk F i (i+1)) k) = -1*(fun k=>sgn k*F k 0*detF n (aae F k)) (if k=i then i+1 else if k=i+1 then i else k):=by
   intro k hk;by_cases e1:k=i
   ·rw [eJ e1];subst e1;have m:aae (dk F k (k+1)) k=aae F (k+1):=by
     funext a b;unfold aae;rw [acK,sk0]
    have e0:dk F k (k+1) k 0=F (k+1) 0:=by unfold dk;rw [eJ rfl]
    show sgn k*dk F k (k+1) k 0*detF n (aae (dk F k (k+1)) k) = -1*(sgn (k+1)*F (k+1) 0*detF n (aae F (k+1)))
    rw [m,e0,afb];grind
   ·rw [cM e1];by_cases e2:k=i+1
    ·rw [eJ e2];subst e2;have m:aae (dk F i (i+1)) (i+1)=aae F i:=by
      funext a b;unfold aae;rw [acK,sk1]
     have e0:dk F i (i+1) (i+1) 0=F i 0:=by unfold dk;rw [cM (by omega),eJ rfl]
     show sgn (i+1)*dk F i (i+1) (i+1) 0*detF n (aae (dk F i (i+1)) (i+1)) = -1*(sgn i*F i 0*detF n (aae F i))
     rw [m,e0,afb];grind
    ·rw [cM e2];have e0:dk F i (i+1) k 0=F k 0:=by unfold dk;rw [cM e1,cM e2]
     show sgn k*dk F i (i+1) k 0*detF n (aae (dk F i (i+1)) k) = -1*(sgn k*F k 0*detF n (aae F k))
     rw [e0];rcases dz k i with h | h
     ·have m:aae (dk F i (i+1)) k=dk (aae F k) (i-1) (i-1+1):=by
       funext a b;unfold aae;rw [acK,acK];show F (sg2 i (skip k a)) (b+1)=F (skip k (sg2 (i-1) a)) (b+1);rw [show i=i-1+1 by omega,sk2 (by omega),uX]
      rw [m,acL (by omega)];grind
     ·have m:aae (dk F i (i+1)) k=dk (aae F k) i (i+1):=by
       funext a b;unfold aae;rw [acK,acK];show F (sg2 i (skip k a)) (b+1)=F (skip k (sg2 i a)) (b+1);rw [sk3 (by omega)]
      rw [m,acL (by omega)];grind
  unfold detF;rw [uv hs,abC,afc (fun k=>sgn k*F k 0*detF n (aae F k)) i (n+1) hi];grind
theorem swap_swap (F:Nat->Nat->Rat) {a b:Nat} (h:a+1<b):dk F a b=dk (dk (dk F a (a+1)) (a+1) b) a (a+1):=by
 funext i;unfold dk;by_cases h1:i=a
 ·subst h1;rw [eJ rfl,eJ rfl,eJ rfl,cM (by omega),cM (by omega)]
 ·rw [cM h1,cM h1];by_cases h2:i=a+1
  ·subst h2;rw [cM (by omega),eJ rfl,cM (by omega),cM (by omega),eJ rfl]
  ·rw [cM h2,cM h2];by_cases h3:i=b
   ·rw [eJ h3,eJ h3,cM (by omega),eJ rfl]
   ·rw [cM h3,cM h3,cM h1,cM h2]
theorem ada {n:Nat}:∀{d a b:Nat} {F:Nat->Nat->Rat},b=a+1+d->b<n->detF n (dk F a b) = -detF n F
 | 0,a,b,F,h,hb=>by subst h;exact acL (by omega)
 | d+1,a,b,F,h,hb=>by rw [swap_swap F (show a+1<b by omega),acL (by omega),ada (d:=d) (by omega) hb,acL (by omega)];grind
theorem acf {n a b:Nat} {F:Nat->Nat->Rat} (ha:a<n) (hb:b<n) (iL:a≠b):detF n (dk F a b) = -detF n F:=by
 rcases dz a b with h | h
 ·exact ada (d:=b-a-1) (by omega) hb
 ·have e:dk F a b=dk F b a:=by
   funext i;unfold dk;by_cases h1:i=a
   ·rw [eJ h1,cM (by omega),eJ h1]
   ·rw [cM h1];by_cases h2:i=b
    ·rw [eJ h2,eJ h2]
    ·rw [cM h2,cM h2,cM h1]
  rw [e];exact ada (d:=a-b-1) (by omega) ha
theorem agL {n a b:Nat} {F:Nat->Nat->Rat} (ha:a<n) (hb:b<n) (iL:a≠b) (h:F a=F b):detF n F=0:=by
 have h1:=acf (F:=F) ha hb iL;have e:dk F a b=F:=by
  funext i;unfold dk;by_cases h1:i=a
  ·rw [eJ h1,h1,h]
  ·rw [cM h1];by_cases h2:i=b
   ·rw [eJ h2,h2,h]
   ·rw [cM h2]
 rw [e] at h1;grind
theorem ad5 {n a b:Nat} {F:Nat->Nat->Rat} (ha:a<n) (hb:b<n) (iL:a≠b) (k:Rat):detF n (setRow F a fun j=>F a j+k*F b j)=detF n F:=by
 rw [acZ ha];have e1:setRow F a (fun j=>F a j)=F:=by
  funext i;unfold setRow;by_cases h1:i=a
  ·rw [eJ h1,h1]
  ·rw [cM h1]
 have e2:detF n (setRow F a fun j=>F b j)=0:=agL ha hb iL (by unfold setRow;rw [eJ rfl,cM (fun e=>iL e.symm)]);rw [e1,e2];grind
theorem acH {n r:Nat} {F:Nat->Nat->Rat} (hr:r<n) (k:Rat):detF n (wa F r k)=k*detF n F:=by
 have e:wa F r k=setRow F r (fun j=>0+k*F r j):=by
  funext i j;unfold wa setRow;by_cases h1:i=r
  ·rw [eJ h1,eJ h1,h1];grind
  ·rw [cM h1,cM h1]
 have e1:setRow F r (fun j=>F r j)=F:=by
  funext i;unfold setRow;by_cases h1:i=r
  ·rw [eJ h1,h1]
  ·rw [cM h1]
 have h0:detF n (setRow F r fun _=>0)=0:=by
  have:=acZ (F:=F) (u:=fun _=>0) (v:=fun _=>0) (k:=1) hr;have e2:(fun j:Nat=>(fun _=>(0:Rat)) j+1*(fun _=>(0:Rat)) j)=fun _=>0:=by funext j;show (0:Rat)+1*0=0;grind
  rw [e2] at this;grind
 rw [e,acZ hr,h0,e1];grind
structure acM (n:Nat) (D:(Nat->Nat->Rat)->Rat):Prop where
 congr:∀F G,(∀i j,i<n->j<n->F i j=G i j)->D F=D G
 swap:∀F a b,a<n->b<n->a≠b->D (dk F a b) = -D F
 scale:∀F r k,r<n->D (wa F r k)=k*D F
 add:∀F a b k,a<n->b<n->a≠b->D (setRow F a fun j=>F a j+k*F b j)=D F
theorem acg (n:Nat):acM n (detF n):=⟨fun _ _ h=>aag h,fun _ _ _ ha hb iL=>acf ha hb iL,fun _ _ k hr=>acH hr k,fun _ _ _ k ha hb iL=>ad5 ha hb iL k⟩
def ack (F:Nat->Nat->Rat) (r c t:Nat):Nat->Nat->Rat:=fun i=>if i≠r/\i<t then fun j=>F i j-F i c*F r j else F i
theorem acM.ack {n:Nat} {D:(Nat->Nat->Rat)->Rat} (h:acM n D) (F:Nat->Nat->Rat) {r:Nat} (c:Nat) (hr:r<n):∀t,t<=n->D (AM.ack F r c t)=D F
 | 0,_=>Ga D (by funext i;unfold AM.ack;rw [cM (by omega)])
 | t+1,ht=>by
  rw [<-acM.ack h F c hr t (by omega)];by_cases e:t=r
  ·refine Ga D ?_;funext i;unfold AM.ack;by_cases h1:i≠r/\i<t
   ·rw [eJ h1,eJ ⟨h1.1,by omega⟩]
   ·rw [cM h1,cM (fun h2=>h1 ⟨h2.1,by omega⟩)]
  ·have hs:AM.ack F r c (t+1)=setRow (AM.ack F r c t) t fun j=>AM.ack F r c t t j + -(F t c)*AM.ack F r c t r j:=by
    funext i;unfold setRow;by_cases h1:i=t
    ·subst h1;rw [eJ rfl];funext j;unfold AM.ack;rw [eJ ⟨e,by omega⟩,cM (by omega),cM (fun h2=>h2.1 rfl)];grind
    ·rw [cM h1];unfold AM.ack;by_cases h2:i≠r/\i<t
     ·rw [eJ h2,eJ ⟨h2.1,by omega⟩]
     ·rw [cM h2,cM (fun h3=>h2 ⟨h3.1,by omega⟩)]
   rw [hs];exact h.add _ t r _ (by omega) hr e
theorem acM.elim {n:Nat} {D:(Nat->Nat->Rat)->Rat} (h:acM n D) (F:Nat->Nat->Rat) {r:Nat} (c:Nat) (hr:r<n):D (abA F r c)=D F:=by
 rw [<-h.ack F c hr n (eM n)];refine h.congr _ _ fun i j hi _=>?_;unfold AM.ack abA;by_cases e:i=r
 ·rw [eJ e,cM (fun h=>h.1 e)]
 ·rw [cM e,eJ ⟨e,hi⟩]
theorem ade (n:Nat) (F:Nat->Nat->Rat):∀c,∃k:Rat,k≠0/\∀D,acM n D->D F=k*D (rr n F c).1
 | 0=>⟨1,by decide,fun D _=>by show D F=1*D F;grind⟩
 | c+1=>by
  obtain ⟨k,hk,h⟩:=ade n F c;have hlen:=acG n F c;unfold rr;generalize rr n F c=S at *
  unfold abv;have hp1:=acn S.1 c (n-S.2.length) S.2.length;have hp2:= @acx S.1 c (n-S.2.length) S.2.length;generalize pivN S.1 c S.2.length (n-S.2.length)=p at *
  split
  ·rename_i hp;have hr:S.2.length<n:=by omega
   have ay:dk S.1 S.2.length p S.2.length c≠0:=by unfold dk;rw [eJ rfl];exact hp2 (by omega)
   have hsw:∃s:Rat,s≠0/\∀D,acM n D->D S.1=s*D (dk S.1 S.2.length p):=by
    by_cases e:S.2.length=p
    ·refine ⟨1,by decide,fun D _=>?_⟩;have:dk S.1 S.2.length p=S.1:=by
      funext i;unfold dk;by_cases h1:i=S.2.length
      ·rw [eJ h1,h1,e]
      ·rw [cM h1,cM (by omega)]
     rw [this];grind
    ·exact ⟨-1,by decide,fun D hD=>by rw [hD.swap _ _ _ hr hp e];grind⟩
   obtain ⟨s,hs,h2⟩:=hsw;generalize dk S.1 S.2.length p=G at *
   refine ⟨k*(s*G S.2.length c),fun e=>?_,fun D hD=>?_⟩
   ·rcases Lx.1 e with e | e
    ·exact hk e
    ·rcases Lx.1 e with e | e
     ·exact hs e
     ·exact ay e
   ·rw [h D hD,h2 D hD];show _=_*D (abA (wa G S.2.length (1/G S.2.length c)) S.2.length c);rw [hD.elim _ c hr,hD.scale _ _ _ hr];have:=GA _ ay;rw [Cg,Gc];grind
  ·exact ⟨k,hk,h⟩
theorem acs.full {n:Nat} {F:Nat->Nat->Rat} {l:List Nat} (h:acs n n F l) (hl:l.length=n):∀k,k<n->l.getD k 0=k:=by
 have h1:∀k,k<n->k<=l.getD k 0:=fun k=>by
  induction k with
  | zero=>intro _;exact ia _
  | succ k ih=>intro hk;have:=ih (by omega);have:=h.inc k (k+1) (by omega) (by omega);omega
 have h2:∀d k,k+d+1=n->l.getD k 0+d+1<=n:=fun d=>by
  induction d with
  | zero=>intro k hk;have:=h.lt k (by omega);omega
  | succ d ih=>intro k hk;have:=ih (k+1) (by omega);have:=h.inc k (k+1) (by omega) (by omega);omega
 intro k hk;have:=h1 k hk;have:=h2 (n-k-1) k (by omega);omega
theorem ach:∀n,detF n iP=1
 | 0=>rfl
 | n+1=>by
  unfold detF;rw [ace (a:=0) (by omega) fun i _ hi=>by have:iP i 0=0:=cM hi;rw [this];grind]
  have e:aae iP 0=iP:=by
   funext a b;unfold aae iP;rw [ab1 (by omega)];by_cases h:a=b
   ·rw [eJ h,eJ (by omega)]
   ·rw [cM h,cM (by omega)]
  have e2:iP 0 0=1:=rfl;rw [e,ach n,e2];show sgn 0*1*1=1;unfold sgn;rw [eJ rfl];grind
theorem acM.low {n:Nat} {D:(Nat->Nat->Rat)->Rat} (h:acM n D) {F:Nat->Nat->Rat} {r:Nat} (hr:r<n) (hz:∀j,j<n->F r j=0):D F=0:=by
 have:=h.scale F r 0 hr;rw [h.congr (wa F r 0) F fun i j _ hj=>by
  unfold wa;by_cases e:i=r
  ·rw [eJ e,e,hz j hj];grind
  ·rw [cM e]] at this
 grind
theorem afE {n:Nat} {F:Nat->Nat->Rat} (h:(rr n F n).2.length=n):∀i j,i<n->j<n->(rr n F n).1 i j=iP i j:=fun i j hi hj=>by have hr:=aca n F n;have hl:=hr.full h;have:=hr.one j i (by omega) hi;rw [hl j hj] at this;rw [this];rfl
theorem afd {n:Nat} {F:Nat->Nat->Rat}:detF n F≠0↔(rr n F n).2.length=n:=by
 obtain ⟨k,hk,h⟩:=ade n F n;have hd:=h _ (acg n);constructor
 ·intro ay;refine G4 fun aU=>ay ?_;have hle:=acG n F n;have hr:=aca n F n;rw [hd,(acg n).low (r:=(rr n F n).2.length) (by omega) fun j hj=>hr.low _ j (eM _) (by omega) hj];grind
 ·intro hl e;rw [hd,(acg n).congr _ _ (afE hl),ach] at e;grind
theorem abt (F G:Nat->Nat->Rat) (n i j:Nat):dw F G n i j=sumN (fun k=>F i k*G k j) n:=(tL F G i j n).symm
def aby (F:Nat->Nat->Rat):Nat->Nat->Rat:=fun i j=>F j i
structure ad4 {α:Type} (n m:Nat) (out:List Nat) (akv:List (List α)) (F:Nat->Nat->α):Prop where
 len:out.length=n
 lt:∀i,i<n->out.getD i 0<akv.length
 row:∀i,i<n->akv.getD (out.getD i 0) []=aA m (F i)
 inj:∀i j,i<n->j<n->out.getD i 0=out.getD j 0->i=j
section
variable {α:Type} {n m:Nat} {out:List Nat} {akv:List (List α)} {F G:Nat->Nat->α}
theorem ad4.congr (h:ad4 n m out akv F) (e:∀i j,i<n->j<m->F i j=G i j):ad4 n m out akv G:=⟨h.len,h.lt,fun i hi=>(h.row i hi).trans (bE fun j hj=>e i j hi hj),h.inj⟩
theorem ad4.cell (d:α) (h:ad4 n m out akv F) {i j:Nat} (hi:i<n) (hj:j<m):(akv.getD (out.getD i 0) []).getD j d=F i j:=by rw [h.row i hi,fW hj]
theorem ad4.rowLen (h:ad4 n m out akv F) {i:Nat} (hi:i<n):(akv.getD (out.getD i 0) []).length=m:=by rw [h.row i hi,mX]
theorem ad4.set (h:ad4 n m out akv F) {r:Nat} (hr:r<n) {xs:List α} {f:Nat->α} (hx:xs=aA m f):ad4 n m out (akv.set (out.getD r 0) xs) (fun i=>if i=r then f else F i):=
 ⟨h.len,fun i hi=>by rw [sC];exact h.lt i hi,fun i hi=>by
  rw [b8 _ _ _ _ _ (h.lt r hr)];by_cases e:i=r
  ·subst e;rw [eJ rfl,eJ rfl,hx]
  ·rw [cM fun e'=>e (h.inj _ _ hi hr e'),cM e];exact h.row i hi,h.inj⟩
theorem ad4.amw (h:ad4 n m out akv F) {r c:Nat} (hr:r<n) (hc:c<m) (x:α):ad4 n m out (akv.set (out.getD r 0) ((akv.getD (out.getD r 0) []).set c x)) (fun i j=>if i=r/\j=c then x else F i j):=
 (h.set hr (xs:=(akv.getD (out.getD r 0) []).set c x) (f:=fun j=>if j=c then x else F r j) (by rw [h.row r hr];exact mY hc)).congr fun i j _ _=>by
  by_cases e:i=r
  ·subst e;rw [eJ rfl];by_cases e2:j=c
   ·rw [eJ e2,eJ ⟨rfl,e2⟩]
   ·rw [cM e2,cM fun k=>e2 k.2]
  ·rw [cM e,cM fun k=>e k.1]
theorem ad4.swap (h:ad4 n m out akv F) {a b:Nat} (ha:a<n) (hb:b<n):ad4 n m ((out.set a (out.getD b 0)).set b (out.getD a 0)) akv (fun i=>if i=a then F b else if i=b then F a else F i):=by
 have la:a<out.length:=by rw [h.len];exact ha
 have lb:b<(out.set a (out.getD b 0)).length:=by rw [sC,h.len];exact hb
 have e:∀i,((out.set a (out.getD b 0)).set b (out.getD a 0)).getD i 0=out.getD (if i=b then a else if i=a then b else i) 0:=fun i=>by
  rw [b8 _ _ _ _ _ lb];by_cases e1:i=b
  ·rw [eJ e1,eJ e1]
  ·rw [cM e1,cM e1,b8 _ _ _ _ _ la];by_cases e2:i=a
   ·rw [eJ e2,eJ e2]
   ·rw [cM e2,cM e2]
 have lt:∀i,i<n->(if i=b then a else if i=a then b else i)<n:=fun i hi=>by split;exact ha;split;exact hb;exact hi
 refine ⟨by rw [sC,sC];exact h.len,fun i hi=>by rw [e];exact h.lt _ (lt i hi),fun i hi=>?_,fun i j hi hj hij=>?_⟩
 ·rw [e,h.row _ (lt i hi)];show _=aA m (if i=a then F b else if i=b then F a else F i);by_cases e1:i=b
  ·rw [eJ e1];by_cases e2:i=a
   ·rw [eJ e2, <- e2,e1]
   ·rw [cM e2,eJ e1]
  ·rw [cM e1];by_cases e2:i=a
   ·rw [eJ e2,eJ e2]
   ·rw [cM e2,cM e2,cM e1]
 ·rw [e,e] at hij;have:=h.inj _ _ (lt i hi) (lt j hj) hij;split at this <;> split at this <;> (try split at this) <;> (try split at this) <;> omega
end
section
variable {n m:Nat} {out:List Nat} {akv:List (List Rat)} {F:Nat->Nat->Rat}
theorem ad4.rows (h:ad4 n m out akv F):out.map (fun p=>akv.getD p [])=aG n m F:=vt [] (by rw [yv];exact h.len) fun i hi=>by rw [getD_map (by rw [h.len];exact hi) 0];exact h.row i hi
theorem ad4.init {M:List (List Rat)} (h:∀i,i<M.length->(M.getD i []).length=m):ad4 M.length m (aA M.length fun t=>if t<M.length then t+1 else 0) ([]::M) (el M):=
 ⟨mX _ _,fun i hi=>by rw [fW hi,eJ hi,yW];omega,fun i hi=>by
  rw [fW hi,eJ hi,CR];have:=ad3 (M.getD i []) 0;rw [h i hi] at this;exact this.symm,fun i j hi hj e=>by
  rw [fW hi,fW hj,eJ hi,eJ hj] at e;omega⟩
end
def abY (M:List (List Rat)):Nat:=(M.getD 0 []).length
def ab2 (M:List (List Rat)):(Nat->Nat->Rat)×List Nat:=rr M.length (el M) (abY M)
def K5 (l:List Nat):List Int:=l.map Int.ofNat
theorem adq (l:List Nat):(K5 l).length=l.length:=yv ..
theorem afF {l:List Nat} {i:Nat} (h:i<l.length):(K5 l).getD i 0=((l.getD i 0:Nat):Int):=getD_map h 0 0
theorem ahH (l:List Nat) (x:Nat):K5 (l++[x])=K5 l++[(x:Int)]:=by unfold K5;rw [Hv];rfl
def aaf (M:List (List Rat)):List (List Rat):=aG (ab2 M).2.length (abY M) (ab2 M).1
def abp (M:List (List Rat)):List Int:=K5 (ab2 M).2
def acR (l:List Nat) (n:Nat):List Nat:=(List.range n).filter fun c=> !decide (c∈l)
theorem agh (l:List Nat) (n:Nat):acR l (n+1)=if n∈l then acR l n else acR l n++[n]:=by
 unfold acR;rw [Mp,List.filter_append];by_cases h:n∈l
 ·rw [eJ h];simp [h]
 ·rw [cM h];simp [h]
def abo (F:Nat->Nat->Rat) (l:List Nat) (n k:Nat):List (List Rat):=(acR l k).map fun c=>aA n (acm F l c)
theorem aeS (F:Nat->Nat->Rat) (l:List Nat) (n k:Nat):abo F l n (k+1)=if k∈l then abo F l n k else abo F l n k++[aA n (acm F l k)]:=by
 unfold abo;rw [agh];by_cases h:k∈l
 ·rw [eJ h,eJ h]
 ·rw [cM h,cM h];simp
def acN (l:List Nat) (f g:Nat->Rat):Nat->Nat->Rat
 | 0=>g
 | i+1=>fun t=>if t=l.getD i 0 then f i else acN l f g i t
theorem aiw {l:List Nat} (hi:∀i j,i<j->j<l.length->l.getD i 0≠l.getD j 0) (f g:Nat->Rat) (t:Nat):acN l f g l.length t=if l.idxOf t<l.length then f (l.idxOf t) else g t:=by
 have key:∀k,k<=l.length->acN l f g k t=if l.idxOf t<k then f (l.idxOf t) else g t:=by
  intro k;induction k with
  | zero=>intro _;rw [cM (pw _)];rfl
  | succ k ih=>
   intro hk;show (if t=l.getD k 0 then f k else acN l f g k t)=_;by_cases e:t=l.getD k 0
   ·have hx:l.idxOf t=k:=by
     have hm:t∈l:=by rw [e];exact Ao (by omega) 0
     have h1:l.idxOf t<l.length:=Mr hm;have h2:=ado h1;rcases yl (l.idxOf t) k with h | h | h
     ·exact absurd (h2.trans e) (hi _ _ h (by omega))
     ·exact h
     ·exact absurd (e.symm.trans h2.symm) (hi _ _ h h1)
    rw [eJ e,hx,eJ (Cn k)]
   ·rw [cM e,ih (by omega)];have ay:l.idxOf t≠k:=fun h=>e (by
     have:=ado (l:=l) (t:=t) (by omega);rw [h] at this;exact this.symm)
    by_cases h:l.idxOf t<k
    ·rw [eJ h,eJ (by omega)]
    ·rw [cM h,cM (by omega)]
 exact key _ (eM _)
def pvN (M:LM) (c t:Nat):Nat:=pivN (el M) c t (M.length-t)
def abu (M:LM) (c t:Nat):Int:=bif decide (pvN M c t<M.length) then ((pvN M c t:Nat):Int) else -1
theorem ahI {M:LM} {c t:Nat} (ht:t<M.length) (h:el M t c=0):pvN M c t=pvN M c (t+1):=by unfold pvN;rw [show M.length-t=(M.length-(t+1))+1 by omega,pivN,eJ h]
theorem ai0 {M:LM} {c t:Nat} (ht:t<M.length) (h:el M t c≠0):pvN M c t=t:=by unfold pvN;rw [show M.length-t=(M.length-(t+1))+1 by omega,pivN,cM h]
theorem aix {M:LM} {c t:Nat} (ht:M.length<=t):pvN M c t=t:=by unfold pvN;rw [show M.length-t=0 by omega,pivN]
theorem aeT {M:LM} {c t:Nat} (h:¬pvN M c t<M.length):abu M c t = -1:=by unfold abu;rw [tS h];rfl
theorem aea {M:LM} {c t:Nat} (h:pvN M c t<M.length):abu M c t=((pvN M c t:Nat):Int):=by unfold abu;rw [xX h];rfl
def L5 (M:LM) (c:Nat):(Nat->Nat->Rat)×List Nat:=rr M.length (el M) c
def nx (M:LM) (c:Nat):Nat:=(L5 M c).2.length
def pvR (M:LM) (c:Nat):Nat:=pivN (L5 M c).1 c (nx M c) (M.length-nx M c)
def swR (M:LM) (c:Nat):Nat->Nat->Rat:=dk (L5 M c).1 (nx M c) (pvR M c)
def kR (M:LM) (c:Nat):Rat:=1/swR M c (nx M c) c
def scT (M:LM) (c j:Nat):Nat->Nat->Rat:=fun i j'=>if i=nx M c/\j'<j then swR M c i j'*kR M c else swR M c i j'
def scR (M:LM) (c:Nat):Nat->Nat->Rat:=wa (swR M c) (nx M c) (kR M c)
def elT (M:LM) (c t:Nat):Nat->Nat->Rat:=fun i j=>if i≠nx M c/\i<t then scR M c i j-scR M c i c*scR M c (nx M c) j else scR M c i j
theorem aiy {M:LM} {c:Nat} (h:pvR M c<M.length):L5 M (c+1)=(abA (scR M c) (nx M c) c,(L5 M c).2++[c]):=by show abv M.length (L5 M c) c=_;unfold abv;exact eJ h
theorem ahh {M:LM} {c:Nat} (h:¬pvR M c<M.length):L5 M (c+1)=L5 M c:=by show abv M.length (L5 M c) c=_;unfold abv;exact cM h
def acu (M:LM):Prop:=∃s,1<=s/\SM s M/\s*5^afM M<=BQ
theorem aeC {F G:Nat->Nat->Rat} {c:Nat}:∀{k t:Nat},(∀i,t<=i->i<t+k->F i c=G i c)->pivN F c t k=pivN G c t k
 | 0,_,_=>rfl
 | k+1,t,h=>by unfold pivN;rw [h t (eM t) (by omega),aeC fun i h1 h2=>h i (by omega) (by omega)]
theorem ahi {n m c t:Nat} (F:Nat->Nat->Rat) (hc:c<m):pvN (aG n m F) c t=pivN F c t (n-t):=by unfold pvN;rw [ab9];exact aeC fun i h1 h2=>Ny (by omega) hc
theorem ad4.sm {n m s:Nat} {out:List Nat} {akv:LM} {F:Nat->Nat->Rat} (h:ad4 n m out akv F) (hs:∀i j,Sq s (F i j)) (h1:1<=s):SM s (out.map fun p=>akv.getD p []):=by rw [h.rows];exact SM.mk (fun i j _ _=>hs i j) h1
theorem BQ1:1<=BQ:=by unfold BQ;omega
theorem ahj {M:LM} (h:acu M) {c:Nat} (hc:c<afM M):∃t,1<=t/\5*t<=BQ/\∀i j,Sq t ((L5 M c).1 i j):=by obtain ⟨s,h1,h2,h3⟩:=h;refine ⟨s*5^c,FX h1 (tR (by omega)),?_,afy h1 (fun i j=>h2.el i j) c⟩;have h4:s*5^(c+1)<=s*5^afM M:=iR s (lN (by omega) hc);rw [pj, <- qU] at h4;omega
structure akW (M:LM) (c:Nat):Prop where
 sw:∀i j,Sq BQ (swR M c i j)
 ne:swR M c (nx M c) c≠0
 k:Sq BQ (kR M c)
 sc:∀j i j',Sq BQ (scT M c j i j')
 el:∀t i j,Sq BQ (elT M c t i j)
 pr:∀i j,i≠nx M c->Sq BQ (scR M c i c*scR M c (nx M c) j)
theorem ahk (M:LM) (c:Nat):nx M c<=M.length:=acG _ _ _
theorem ai1 (M:LM) (c:Nat):nx M c<=pvR M c:=(acn _ _ _ _).1
theorem akX {M:LM} (h:acu M) {c:Nat} (hc:c<afM M) (hp:pvR M c<M.length):akW M c:=by
 obtain ⟨t,t1,t2,hs⟩:=ahj h hc;have hsw:∀i j,Sq t (swR M c i j):=fun i j=>by
  unfold swR dk;split
  ·exact hs _ _
  ·split
   ·exact hs _ _
   ·exact hs _ _
 have ay:swR M c (nx M c) c≠0:=by unfold swR dk;rw [eJ rfl];exact acx (show pvR M c<nx M c+(M.length-nx M c) by have:=ahk M c;omega)
 have hk:Sq t (kR M c):=by unfold kR;rw [Cg,Gc];exact (hsw _ _).inv ay
 have hsc:∀i j,Sq (2*t) (scR M c i j):=fun i j=>by
  unfold scR wa;split
  ·exact ((hsw i j).mul hk).le (by omega)
  ·exact (hsw i j).le (by omega)
 have agd:∀i j,i≠nx M c->Sq t (scR M c i j):=fun i j hi=>by unfold scR wa;rw [cM hi];exact hsw i j
 have Y9:∀i j,i≠nx M c->Sq (3*t) (scR M c i c*scR M c (nx M c) j):=fun i j hi=>((agd i c hi).mul (hsc _ j)).le (by omega);refine ⟨fun i j=>(hsw i j).le (by omega),ay,hk.le (by omega),fun j i j'=>?_,fun t' i j=>?_,fun i j hi=>(Y9 i j hi).le (by omega)⟩
 ·unfold scT;split
  ·exact ((hsw i j').mul hk).le (by omega)
  ·exact (hsw i j').le (by omega)
 ·unfold elT;split
  ·rename_i hi;exact ((agd i j hi.1).sub (Y9 i j hi.1)).le (by omega)
  ·exact (hsc i j).le (by omega)
theorem aiz {b:Bool} {M:LM} (h:b=true):bz b M=M:=by rw [h];rfl
theorem idh {n m i:Nat} {out:List Nat} {akv:LM} {F:Nat->Nat->Rat} (h:ad4 n m out akv F) (hi:i<n):((0:Int)<=(i:Int)/\(i:Int)<((out.length:Nat):Int))/\i<out.length/\out.getD i 0<akv.length:=by rw [h.len];exact ⟨by omega,hi,h.lt i hi⟩
theorem idc {n m i j:Nat} {out:List Nat} {akv:LM} {F:Nat->Nat->Rat} (h:ad4 n m out akv F) (hi:i<n) (hj:j<m):(out.getD i 0<akv.length/\(0:Int)<=(j:Int)/\(j:Int)<(((akv.getD (out.getD i 0) []).length:Nat):Int))/\out.getD i 0<akv.length/\j<(akv.getD (out.getD i 0) []).length:=by rw [h.rowLen hi];exact ⟨⟨h.lt i hi,by omega,by omega⟩,h.lt i hi,hj⟩
noncomputable def LX1:List az:=Nj::xM::Cb::Wk::V9::aa5::[]
theorem aeN:bd LX1:=⟨J0,pJ,tA,Qx,Qc,V5,trivial⟩
def fePiv:CF
 | [.k (.list (.list .q)) M,.k (.int .i64) ((t:Nat):Int),.k (.int .i64) ((c:Nat):Int)]=>some (some (t<=M.length/\(∀i,i<M.length->c<(M.getD i []).length)/\SM BQ M),.k (.int .i64) (abu M c t),[])
 | _=>none
def agO:az:=⟨44,false,fePiv⟩
def aiB (M:LM) (t c:Nat):bk:=⟨nU,fun key_=>match key_ with
 | 2=>some (⟨Nat,fun i=>[(0,.k (.list (.list .q)) M),(2,.k (.int .i64) ((c:Nat):Int)),(6,.k (.int .i64) (0:Int)),(7,.k (.int .i64) ((i:Nat):Int))],
 fun i=>[],fun _ i=>i<=M.length/\t<=i/\pvN M c t=pvN M c i,fun i=>M.length-i⟩) | _=>none,nR,nU⟩
def agP (M:LM) (t c:Nat):Prop:=∃(x0:Nat),(M=M/\(↑c:Int)=↑c/\(0:Int)=(0:Int)/\(↑t:Int)=↑x0)/\(x0<=M.length/\t<=x0/\pvN M c t=pvN M c x0)/\∀(x:Nat),x <=
 M.length/\t<=x/\pvN M c t=pvN M c x->M.length<=aB->bif decide ((↑x:Int)<↑M.length) then (0<=(↑x:Int)/\(↑x:Int)<↑M.length) /\
 (0<=(↑c:Int)/\(↑c:Int)<↑(M.getD (↑x:Int).toNat []).length)/\Sq BQ ((M.getD (↑x:Int).toNat []).getD (↑c:Int).toNat 0)/\bif !decide
 (((M.getD (↑x:Int).toNat []).getD (↑c:Int).toNat 0).num.sign=0) then (↑x:Int)=abu M c t else ax ((↑x:Int)+1)/\∃(x':Nat),(M =
 M/\(↑c:Int)=↑c/\(0:Int)=(0:Int)/\(↑x:Int)+1=↑x')/\(x'<=M.length/\t<=x'/\pvN M c t=pvN M c x')/\M.length-x'<M.length
 - x else (-1:Int)=abu M c t
theorem ahJ (M:LM) (t c:Nat):aw LX1 [] (aiB M t c) Tryz.f44 (.k (.int .i64) (abu M c t)) [.k (.list (.list .q)) M,.k (.int .i64) ((t:Nat):Int),.k (.int .i64) ((c:Nat):Int)]=agP M t c:=by kernel_rfl
theorem ahL (M:LM) (t c:Nat) (hg:t<=M.length/\(∀i,i<M.length->c<(M.getD i []).length)/\SM BQ M):agP M t c:=by
 obtain ⟨ht,hk,hs⟩:=hg;unfold agP;refine ⟨t,⟨rfl,rfl,rfl,rfl⟩,⟨ht,eM t,rfl⟩,fun i ⟨hi,h1,h2⟩ hL=>aH (fun h=>?_) fun h=>?_⟩
 ·have cw:i<M.length:=by omega
  refine ⟨idx h,⟨by omega,Gg.2 (hk i cw)⟩,hs i c,dP (fun h4=>?_) fun h4=>⟨nQ cw hL,i+1,⟨rfl,rfl,rfl,rfl⟩,⟨by omega,by omega,h2.trans (ahI cw (sign_zero.1 h4))⟩,by omega⟩⟩;have e:pvN M c t=i:=h2.trans (ai0 cw fun h0=>h4 (sign_zero.2 h0));rw [aea (by omega),e]
 ·rw [aeT (by rw [h2,aix (by omega)];omega)]
theorem afe:aoH (cfg []) agO:=cf aeN bp Tryz.func44 (by kernel_rfl) fun args g r hn hc hg hf=>by
 replace hc:fePiv args=some (g,r,hn):=hc;unfold fePiv at hc;split at hc
 ·obtain ⟨rfl,rfl,rfl⟩:=aN hc;cases aY (ahJ _ _ _) (ahL _ _ _ hg);exact ⟨rfl,by kernel_rfl,_,by assumption⟩
 ·cases hc
def feRed:List AV->Ob->Option (Option Prop×AV×Ob)
 | [.own 1000000 0 5,.k (.list .q) ys,.k .q k],.arr 45 .q xs=>some (some (xs.length=ys.length/\SL BQ xs/\SL BQ ys/\Sq BQ k/\∀j,Sq BQ (k*ys.getD j 0)),.eX .nil,.arr 45 .q (aA xs.length fun j=>xs.getD j 0-k*ys.getD j 0))
 | _,_=>none
def agQ:lE:=⟨46,0,feRed⟩
def aiC (xs ys:List Rat) (k:Rat):bk:=⟨fun key_=>match key_ with | 6=>9 | _=>0,fun key_=>match key_ with
 | 3=>some (⟨Nat,fun i=>[(0,.own 1000000 0 5),(5,.pt 5 0 5 0 0),(11,.k (.list .q) ys),(12,.k (.int .i64) ((ys.length:Nat):Int)),(13,.k (.int .i64) ((i:Nat):Int))],
 fun i=>[(5,.box 45 (.k .q k)),(1000000,.arr 45 .q (aA xs.length fun j=>if j<i then xs.getD j 0-k*ys.getD j 0 else xs.getD j 0))],fun _ i=>i<=ys.length/\k≠0,fun i=>ys.length-i⟩) | _=>none,nR,nU⟩
def agR (xs ys:List Rat) (k:Rat):Prop:=Sq BQ k/\bif decide (k.num.sign=0) then xs=aA xs.length fun (j:Nat)=>xs.getD j 0-k*ys.getD j 0 else ys.length<=aB->∃(x0:Nat),
 ((ys=ys/\(↑ys.length:Int)=↑ys.length/\(0:Int)=(↑x0:Int))/\k=k/\xs=aA xs.length fun (j:Nat)=>if j<x0 then xs.getD j 0-k *
 ys.getD j 0 else xs.getD j 0)/\(x0<=ys.length/\k≠0)/\∀(x:Nat),
 let u1:=(↑(aA xs.length fun (j:Nat)=>if j<x then xs.getD j 0-k*ys.getD j 0 else xs.getD j 0).length:Int);x<=ys.length/\k≠(0 :
 Rat)->bif decide ((↑x:Int)<↑ys.length) then (0<=(↑x:Int)/\(↑x:Int)<↑ys.length)/\Sq BQ (ys.getD (↑x:Int).toNat 0)/\bif
 !decide ((ys.getD (↑x:Int).toNat 0).num.sign=0) then (0<=(↑x:Int)/\(↑x:Int)<u1)/\(↑x:Int).toNat<(aA xs.length fun (j:Nat)=>
 if j<x then xs.getD j 0-k*ys.getD j 0 else xs.getD j 0).length/\(Sq BQ k/\Sq BQ (ys.getD (↑x:Int).toNat 0))/\(Sq BQ ((aA
 xs.length fun (j:Nat)=>if j<x then xs.getD j 0-k*ys.getD j 0 else xs.getD j 0).getD (↑x:Int).toNat 0)/\Sq BQ (k*ys.getD (↑x
 : Int).toNat 0))/\(0<=(↑x:Int)/\(↑x:Int)<u1)/\(↑x:Int).toNat<(aA xs.length fun (j:Nat)=>if j<x then xs.getD j 0-k*ys.getD
 j (0:Rat) else xs.getD j 0).length/\ax ((↑x:Int)+1)/\∃(x':Nat),((ys=ys/\(↑ys.length:Int)=↑ys.length/\(↑x:Int)+1
 = (↑x':Int))/\k=k/\(aA xs.length fun (j:Nat)=>if j<x then xs.getD j 0-k*ys.getD j 0 else xs.getD j 0).set (↑x:Int).toNat ((aA
 xs.length fun (j:Nat)=>if j<x then xs.getD j 0-k*ys.getD j 0 else xs.getD j 0).getD (↑x:Int).toNat 0-k*ys.getD (↑x :
 Int).toNat 0)=aA xs.length fun (j:Nat)=>if j<x' then xs.getD j 0-k*ys.getD j 0 else xs.getD j 0)/\(x'<=ys.length/\k≠(0 :
 Rat))/\ys.length-x'<ys.length-x else ax ((↑x:Int)+1)/\∃(x':Nat),((ys=ys/\(↑ys.length:Int)=↑ys.length/\(↑x:Int)+1 =
 (↑x':Int))/\k=k/\(aA xs.length fun (j:Nat)=>if j<x then xs.getD j 0-k*ys.getD j 0 else xs.getD j 0)=aA xs.length fun (j:Nat)
 =>if j<x' then xs.getD j 0-k*ys.getD j 0 else xs.getD j 0)/\(x'<=ys.length/\k≠0)/\ys.length-x'<ys.length-x else (aA
 xs.length fun (j:Nat)=>if j<x then xs.getD j 0-k*ys.getD j 0 else xs.getD j 0)=aA xs.length fun (j:Nat)=>xs.getD j 0-k
 * ys.getD j 0
theorem ahM (xs ys:List Rat) (k:Rat) (gh_:Nat->Value):awp (acp (cfg LX1 []) (0+1) gh_) (aiC xs ys k) Tryz.f46.ntmps (Tryz.f46.body.getD .skip) (agE Tryz.f46.results.toList (.eX .nil) 0 5 (.arr 45 .q (aA xs.length fun j=>xs.getD j 0-k*ys.getD j 0))) ⟨aqq 0 [.own 1000000 0 5,.k (.list .q) ys,.k .q k],[(dj,.arr 45 .q xs)]⟩=agR xs ys k:=by kernel_rfl
theorem ahN (xs ys:List Rat) (k:Rat) (hg:xs.length=ys.length/\SL BQ xs/\SL BQ ys/\Sq BQ k/\∀j,Sq BQ (k*ys.getD j 0)):agR xs ys k:=by
 obtain ⟨hl,h1,h2,h3,h4⟩:=hg;unfold agR;have at_:∀i,i<xs.length->(aA xs.length fun j=>if j<i then xs.getD j 0-k*ys.getD j 0 else xs.getD j 0).getD i 0=xs.getD i 0:=fun i hi=>by rw [fW hi,cM (xZ i)]
 refine ⟨h3,aH (fun h=>?_) fun h hL=>⟨0,⟨⟨rfl,rfl,rfl⟩,rfl,?_⟩,⟨ia _,fun e=>h (sign_zero.2 e)⟩,fun i ⟨hi,hk⟩=>aH (fun h5=>⟨idx h5,h2 i,dP (fun h6=>?_) fun h6=>?_⟩) fun h5=>?_⟩⟩
 ·exact (ad3 xs 0).symm.trans (bE fun j _=>by rw [sign_zero.1 h];grind)
 ·exact (ad3 xs 0).symm.trans (bE fun j _=>(cM (pw _)).symm)
 ·have cw:i<ys.length:=by omega
  have hx:i<xs.length:=by omega
  have e:=at_ i hx;have e1:Sq BQ ((aA xs.length fun j=>if j<i then xs.getD j 0-k*ys.getD j 0 else xs.getD j 0).getD i 0):=by rw [e];exact h1 i
  have r1:(0:Int)<=(i:Int)/\(i:Int)<(((aA xs.length fun j=>if j<i then xs.getD j 0-k*ys.getD j 0 else xs.getD j 0).length:Nat):Int):=by rw [mX];omega
  have r2:i<(aA xs.length fun j=>if j<i then xs.getD j 0-k*ys.getD j 0 else xs.getD j 0).length:=by rw [mX];exact hx
  refine ⟨r1,r2,⟨h3,h2 i⟩,⟨e1,h4 i⟩,r1,r2,nQ cw hL,i+1,⟨⟨rfl,rfl,rfl⟩,rfl,?_⟩,⟨by omega,hk⟩,by omega⟩;rw [show ((i:Nat):Int).toNat=i from rfl,e,mY hx];refine bE fun j _=>?_;rcases yl j i with h7 | h7 | h7
  ·rw [cM (by omega),eJ h7,eJ (by omega)]
  ·rw [eJ h7,eJ (by omega),h7]
  ·rw [cM (by omega),cM (by omega),cM (by omega)]
 ·have cw:i<ys.length:=by omega
  refine ⟨nQ cw hL,i+1,⟨⟨rfl,rfl,rfl⟩,rfl,bE fun j _=>?_⟩,⟨by omega,hk⟩,by omega⟩;have h6:ys.getD i 0=0:=sign_zero.1 h6;rcases yl j i with h7 | h7 | h7
  ·rw [eJ h7,eJ (by omega)]
  ·rw [cM (by omega),eJ (by omega),h7,h6];grind
  ·rw [cM (by omega),cM (by omega)]
 ·exact bE fun j hj=>eJ (by omega)
theorem afh:AQ (cfg []) agQ:=alr aeN bp Tryz.func46 (by kernel_rfl) (by kernel_rfl) fun args ob g r ob' hc hg hf=>by
 replace hc:feRed args ob=some (g,r,ob'):=hc;unfold feRed at hc;split at hc
 ·obtain ⟨rfl,rfl,rfl⟩:=aN hc;have hv:=ahN _ _ _ hg;exact ⟨by kernel_rfl,5,_,rfl,fun gh=>by cases aY (ahM _ _ _ gh) hv;assumption⟩
 ·cases hc
noncomputable def LX2:List az:=ya::aBQ::agO::LX1
theorem ai2:bd LX2:=⟨uz,L6,afe,aeN⟩
noncomputable def MX1:List lE:=agQ::[]
theorem ai3:ku MX1:=⟨afh,trivial⟩
def feReduce:CF
 | [.k (.list (.list .q)) M]=>some (some (amP M=true->acu M),T2 (.agg (.cons (.k (.list (.list .q)) (bz (amP M) (aaf M))) (.cons (.k (.list (.int .i64)) (bif amP M then abp M else [])) .nil))) (.k (.int .i64) (bu (amP M))),[])
 | _=>none
def aeb:az:=⟨30,false,feReduce⟩
def agi (M:LM):bk:=⟨fun key_=>match key_ with | 11=>12 | 12=>13 | 16=>8 | 22=>15 | _=>0,fun key_=>match key_ with
 | 6=>some (⟨Nat×List Nat×LM,fun p=>[(0,.k (.list (.list .q)) M),(2,.pt 2 0 2 0 0),(4,.own 19 0 1),(5,.own 109 0 1),(23,.k (.int .i64) ((afM M:Nat):Int)),(24,.k (.int .i64) ((p.1:Nat):Int))],
 fun p=>[(2,.box 76 (.agg (.cons .dv (.cons .dv .nil)))),(19,.bc 36 45 .q p.2.1 p.2.2),(109,.arr 3 (.int .i64) (K5 (L5 M p.1).2))],
 fun _ p=>amP M=true/\p.1<=afM M/\ad4 M.length (afM M) p.2.1 p.2.2 (L5 M p.1).1,fun p=>afM M-p.1⟩)
 | 1000011=>some (⟨Nat×List Nat×LM,fun p=>[(0,.k (.list (.list .q)) M),(2,.pt 2 0 2 0 0),(4,.own 19 0 1),(5,.own 109 0 1),(6,.k (.int .i64) ((p.1:Nat):Int)),(7,.k (.int .i64) ((nx M p.1:Nat):Int)),(23,.k (.int .i64) ((afM M:Nat):Int)),(24,.k (.int .i64) ((p.1:Nat):Int))],
 fun p=>[(2,.box 76 (.agg (.cons .dv (.cons .dv .nil)))),(19,.bc 36 45 .q p.2.1 p.2.2),(109,.arr 3 (.int .i64) (K5 (L5 M p.1).2))],
 fun q p=>p.1=q.1/\amP M=true/\p.1<afM M/\pvR M p.1<M.length/\ad4 M.length (afM M) p.2.1 p.2.2 (swR M p.1),fun p=>0⟩)
 | 14=>some (⟨Nat×Nat×List Nat×LM,fun p=>[(0,.k (.list (.list .q)) M),(2,.pt 2 0 2 0 0),(4,.own 19 0 1),(5,.own 109 0 1),(6,.k (.int .i64) ((p.2.1:Nat):Int)),(7,.k (.int .i64) ((nx M p.2.1:Nat):Int)),(9,.pt 9 0 5 0 0),(23,.k (.int .i64) ((afM M:Nat):Int)),(24,.k (.int .i64) ((p.2.1:Nat):Int)),(64,.own 19 (p.2.2.1.getD (nx M p.2.1) 0+1) 5),(65,.k (.int .i64) ((afM M:Nat):Int)),(66,.k (.int .i64) ((p.1:Nat):Int))],
 fun p=>[(2,.box 76 (.agg (.cons .dv (.cons .dv .nil)))),(9,.box 45 (.k .q (kR M p.2.1))),(19,.bc 36 45 .q p.2.2.1 p.2.2.2),(109,.arr 3 (.int .i64) (K5 (L5 M p.2.1).2))],
 fun q p=>p.2.1=q.2.1/\p.2.2.1=q.2.2.1/\amP M=true/\p.2.1<afM M/\pvR M p.2.1<M.length/\p.1<=afM M/\ad4 M.length (afM M) p.2.2.1 p.2.2.2 (scT M p.2.1 p.1),fun p=>afM M-p.1⟩)
 | 19=>some (⟨Nat×Nat×List Nat×LM,fun p=>[(0,.k (.list (.list .q)) M),(2,.pt 2 0 2 0 0),(4,.own 19 0 1),(5,.own 109 0 1),(6,.k (.int .i64) ((p.2.1:Nat):Int)),(7,.k (.int .i64) ((nx M p.2.1:Nat):Int)),(23,.k (.int .i64) ((afM M:Nat):Int)),(24,.k (.int .i64) ((p.2.1:Nat):Int)),(82,.k (.int .i64) ((M.length:Nat):Int)),(83,.k (.int .i64) ((p.1:Nat):Int))],
 fun p=>[(2,.box 76 (.agg (.cons .dv (.cons .dv .nil)))),(19,.bc 36 45 .q p.2.2.1 p.2.2.2),(109,.arr 3 (.int .i64) (K5 (L5 M p.2.1).2))],
 fun q p=>p.2.1=q.2.1/\amP M=true/\p.2.1<afM M/\pvR M p.2.1<M.length/\p.1<=M.length/\ad4 M.length (afM M) p.2.2.1 p.2.2.2 (elT M p.2.1 p.1),fun p=>M.length-p.1⟩) | _=>none,nR,nU⟩
def aec (M:LM):Prop:=
 let t1:=(↑(afM M):Int);
 bif !amP M then (bz (amP M) (aaf M)=[]/\(bif amP M then abp M else [])=[])/\(5:Int)=bu (amP M) else ((0:Int)<=(0:Int)/\(0:Int) <
 (↑M.length:Int))/\((M.getD (Int.toNat (0:Int)) []).length<=aB->∃(x0:Nat×List Nat×LM),((M=M/\(↑(M.getD (Int.toNat (0:Int)) []).length :
 Int)=t1/\(0:Int)=(↑x0.1:Int))/\(bh M.length M.length=x0.2.1/\[]::M=x0.2.2)/\K5 (L5 M x0.1).snd=[])/\(amP M=true/\x0.1<=afM M/\ad4
 M.length (afM M) x0.2.1 x0.2.2 (L5 M x0.1).fst)/\∀(x:Nat×List Nat×LM),let u3:=K5 (L5 M x.1).snd;
 let u1:=List.map (fun (p:Nat)=>x.2.2.getD p []) x.2.1;let u14:=abu u1 x.1 u3.length;
 let u9:=x.2.1.set (↑u3.length:Int).toNat ((x.2.1.getD u14.toNat 0));amP M=true/\x.1<=afM M/\ad4 M.length (afM M) x.2.1 x.2.2 (L5 M x.1).fst ->
 bif decide ((↑x.1:Int)<t1) then u3.length<=aB->(u3.length<=u1.length/\(∀(i:Nat),i<u1.length->x.1<(u1.getD i []).length)/\SM BQ u1)/\bif decide (abu
 u1 x.1 u3.length<0) then ax ((↑x.1:Int)+1)/\∃(x':Nat×List Nat×LM),((M=M/\t1=t1/\(↑x.1:Int)+1=(↑x'.1 :
 Int))/\(x.2.1=x'.2.1/\x.2.2=x'.2.2)/\K5 (L5 M x.1).snd=K5 (L5 M x'.1).snd)/\(amP M=true/\x'.1<=afM M/\ad4 M.length (afM M) x'.2.1 x'.2.2 (L5
 M x'.1).fst)/\afM M-x'.1<afM M-x.1 else ((0:Int)<=abu u1 x.1 u3.length/\abu u1 x.1 u3.length<(↑x.2.1.length:Int))/\u14.toNat<x.2.1.length/\((0 :
 Int)<=(↑u3.length:Int)/\(↑u3.length:Int)<↑x.2.1.length)/\(↑u3.length:Int).toNat<x.2.1.length/\(0<=(↑u3.length:Int)/\(↑u3.length:Int) <
 (↑x.2.1.length:Int))/\((↑u3.length:Int).toNat<x.2.1.length/\(x.2.1.getD u14.toNat 0)<x.2.2.length)/\((0:Int)<=abu u1 x.1 u3.length/\abu u1 x.1
 u3.length<(↑u9.length:Int))/\(u14.toNat<u9.length/\(x.2.1.getD (↑u3.length:Int).toNat 0)<x.2.2.length)/\∃(x0:Nat×List Nat×LM),
 ((M=M/\(↑x.1:Int)=↑x0.1/\(↑u3.length:Int)=(↑(nx M x0.1):Int)/\t1=t1/\(↑x.1:Int)=↑x0.1)/\(u9.set u14.toNat ((x.2.1.getD (↑u3.length
 : Int).toNat 0))=x0.2.1/\x.2.2=x0.2.2)/\K5 (L5 M x.1).snd=K5 (L5 M x0.1).snd)/\(x0.1=x0.1/\amP M=true/\x0.1<afM M/\pvR M x0.1 <
 M.length/\ad4 M.length (afM M) x0.2.1 x0.2.2 (swR M x0.1))/\∀(y1:Nat×List Nat×LM),let u11:=(↑(nx M y1.1):Int);
 let u4:=y1.2.1.getD u11.toNat 0;let u15:=y1.2.2.getD u4 [];y1.1=x0.1/\amP M=true/\y1.1<afM M/\pvR M y1.1<M.length/\ad4 M.length (afM M)
 y1.2.1 y1.2.2 (swR M y1.1)->ax (1:Int)/\((0:Int)<=u11/\u11<(↑y1.2.1.length:Int))/\u11.toNat<y1.2.1.length/\(u4<y1.2.2.length/\0<=(↑y1.1 :
 Int)/\(↑y1.1:Int)<↑u15.length)/\(u4<y1.2.2.length/\(↑y1.1:Int).toNat<u15.length)/\(Sq BQ (↑(1:Int):Rat)/\Sq BQ (u15.getD (↑y1.1:Int).toNat (0
 : Rat)))/\((0:Int)<=u11/\u11<(↑y1.2.1.length:Int))/\u11.toNat<y1.2.1.length/\(u15.length<=aB->u4<y1.2.2.length/\∃(x0:Nat×Nat×List Nat×List
 (List Rat)),((M=M/\(↑y1.1:Int)=↑x0.2.1/\u11=(↑(nx M x0.2.1):Int)/\t1=t1/\(↑y1.1:Int)=↑x0.2.1/\u4=(x0.2.2.1.getD (nx M x0.2.1) (0
 : Nat))/\(↑u15.length:Int)=t1/\(0:Int)=(↑x0.1:Int))/\(↑(1:Int):Rat)/u15.getD (↑y1.1:Int).toNat 0=kR M x0.2.1/\(y1.2.1=x0.2.2.1/\y1.2.2
 = x0.2.2.2)/\K5 (L5 M y1.1).snd=K5 (L5 M x0.2.1).snd)/\(x0.2.1=x0.2.1/\x0.2.2.1=x0.2.2.1/\amP M=true/\x0.2.1<afM M/\pvR M x0.2.1<M.length /\
 x0.1<=afM M/\ad4 M.length (afM M) x0.2.2.1 x0.2.2.2 (scT M x0.2.1 x0.1))/\∀(y2:Nat×Nat×List Nat×LM),let u13:=(↑(nx M y2.2.1):Int);
 let u6:=y2.2.2.1.getD (nx M y2.2.1) 0;let u5:=y2.2.2.1.getD u13.toNat 0;y2.2.1=x0.2.1/\y2.2.2.1=x0.2.2.1/\amP M=true/\y2.2.1<afM M
 /\ pvR M y2.2.1<M.length/\y2.1<=afM M/\ad4 M.length (afM M) y2.2.2.1 y2.2.2.2 (scT M y2.2.1 y2.1)->bif decide ((↑y2.1:Int)<t1) then (u6<y2.2.2.2.length /\
 0<=(↑y2.1:Int)/\(↑y2.1:Int)<↑(y2.2.2.2.getD u6 []).length)/\(u6<y2.2.2.2.length/\(↑y2.1:Int).toNat<(y2.2.2.2.getD u6 []).length)/\((0 :
 Int)<=u13/\u13<(↑y2.2.2.1.length:Int))/\u13.toNat<y2.2.2.1.length/\(Sq BQ ((y2.2.2.2.getD u6 []).getD (↑y2.1:Int).toNat 0)/\Sq BQ (kR M y2.2.1)) /\
 (u5<y2.2.2.2.length/\0<=(↑y2.1:Int)/\(↑y2.1:Int)<↑(y2.2.2.2.getD u5 []).length)/\(u5<y2.2.2.2.length/\(↑y2.1:Int).toNat<(y2.2.2.2.getD
 u5 []).length)/\ax ((↑y2.1:Int)+1)/\∃(x':Nat×Nat×List Nat×LM),((M=M/\(↑y2.2.1:Int)=↑x'.2.1/\u13=(↑(nx M x'.2.1)
 : Int)/\t1=t1/\(↑y2.2.1:Int)=↑x'.2.1/\u6=(x'.2.2.1.getD (nx M x'.2.1) 0)/\t1=t1/\(↑y2.1:Int)+1=↑x'.1)/\kR M y2.2.1
 = kR M x'.2.1/\(y2.2.2.1=x'.2.2.1/\y2.2.2.2.set u5 ((y2.2.2.2.getD u5 []).set (↑y2.1:Int).toNat ((y2.2.2.2.getD u6 []).getD (↑y2.1:Int).toNat 0*kR M
 y2.2.1))=x'.2.2.2)/\K5 (L5 M y2.2.1).snd=K5 (L5 M x'.2.1).snd)/\(x'.2.1=x0.2.1/\x'.2.2.1=x0.2.2.1/\amP M=true/\x'.2.1<afM M/\pvR M x'.2.1 <
 M.length/\x'.1<=afM M/\ad4 M.length (afM M) x'.2.2.1 x'.2.2.2 (scT M x'.2.1 x'.1))/\afM M-x'.1<afM M-y2.1 else y2.2.2.1.length<=aB->∃(x0:Nat ×
 Nat×List Nat×LM),((M=M/\(↑y2.2.1:Int)=↑x0.2.1/\u13=(↑(nx M x0.2.1):Int)/\t1=t1/\(↑y2.2.1:Int)=↑x0.2.1 /\
 (↑y2.2.2.1.length:Int)=↑M.length/\(0:Int)=(↑x0.1:Int))/\(y2.2.2.1=x0.2.2.1/\y2.2.2.2=x0.2.2.2)/\K5 (L5 M y2.2.1).snd=K5 (L5 M x0.2.1).snd)
 /\ (x0.2.1=x0.2.1/\amP M=true/\x0.2.1<afM M/\pvR M x0.2.1<M.length/\x0.1<=M.length/\ad4 M.length (afM M) x0.2.2.1 x0.2.2.2 (elT M x0.2.1 x0.1))/\∀
 (y3:Nat×Nat×List Nat×LM),let u8:=(↑y3.2.1:Int);let u7:=(↑(nx M y3.2.1):Int);let u12:=y3.2.2.1.getD u7.toNat 0;
 let u2:=y3.2.2.1.getD (↑y3.1:Int).toNat 0;let u10:=y3.2.2.2.getD u2 [];y3.2.1=x0.2.1/\amP M=true/\y3.2.1<afM M/\pvR M y3.2.1<M.length /\
 y3.1<=M.length/\ad4 M.length (afM M) y3.2.2.1 y3.2.2.2 (elT M y3.2.1 y3.1)->bif decide ((↑y3.1:Int)<↑M.length) then bif !decide ((↑y3.1:Int)=u7)
 then (0<=(↑y3.1:Int)/\(↑y3.1:Int)<↑y3.2.2.1.length)/\(↑y3.1:Int).toNat<y3.2.2.1.length/\((0:Int)<=u7/\u7<(↑y3.2.2.1.length:Int)) /\
 u7.toNat<y3.2.2.1.length/\(0<=(↑y3.1:Int)/\(↑y3.1:Int)<↑y3.2.2.1.length)/\(↑y3.1:Int).toNat<y3.2.2.1.length/\(u2<y3.2.2.2.length/\(0 :
 Int)<=u8/\u8<(↑u10.length:Int))/\(u2<y3.2.2.2.length/\u8.toNat<u10.length)/\(u2<y3.2.2.2.length/\u12≠u2/\u10.length=(y3.2.2.2.getD u12 []).length /\
 SL BQ u10/\SL BQ (y3.2.2.2.getD u12 [])/\Sq BQ (u10.getD u8.toNat 0)/\∀(j:Nat),Sq BQ (u10.getD u8.toNat 0*(y3.2.2.2.getD u12 []).getD j (0 :
 Rat)))/\ax ((↑y3.1:Int)+1)/\∃(x':Nat×Nat×List Nat×LM),((M=M/\u8=(↑x'.2.1:Int)/\u7=(↑(nx M x'.2.1):Int)/\t1=t1/\u8
 = (↑x'.2.1:Int)/\(↑M.length:Int)=↑M.length/\(↑y3.1:Int)+1=↑x'.1)/\(y3.2.2.1=x'.2.2.1/\y3.2.2.2.set u2 (aA u10.length fun (j :
 Nat)=>u10.getD j 0-u10.getD u8.toNat 0*(y3.2.2.2.getD u12 []).getD j 0)=x'.2.2.2)/\K5 (L5 M y3.2.1).snd=K5 (L5 M x'.2.1).snd) /\
 (x'.2.1=x0.2.1/\amP M=true/\x'.2.1<afM M/\pvR M x'.2.1<M.length/\x'.1<=M.length/\ad4 M.length (afM M) x'.2.2.1 x'.2.2.2 (elT M x'.2.1 x'.1)) /\
 M.length-x'.1<M.length-y3.1 else ax ((↑y3.1:Int)+1)/\∃(x':Nat×Nat×List Nat×LM),((M=M/\u8=(↑x'.2.1:Int)/\u7=(↑(nx M
 x'.2.1):Int)/\t1=t1/\u8=(↑x'.2.1:Int)/\(↑M.length:Int)=↑M.length/\(↑y3.1:Int)+1=↑x'.1)/\(y3.2.2.1=x'.2.2.1/\y3.2.2.2 =
 x'.2.2.2)/\K5 (L5 M y3.2.1).snd=K5 (L5 M x'.2.1).snd)/\(x'.2.1=x0.2.1/\amP M=true/\x'.2.1<afM M/\pvR M x'.2.1<M.length/\x'.1<=M.length/\ad4
 M.length (afM M) x'.2.2.1 x'.2.2.2 (elT M x'.2.1 x'.1))/\M.length-x'.1<M.length-y3.1 else (K5 (L5 M y3.2.1).snd).length+[u8].length<=aB/\ax (u8+(1 :
 Int))/\∃(x':Nat×List Nat×LM),((M=M/\t1=t1/\u8+(1:Int)=(↑x'.1:Int))/\(y3.2.2.1=x'.2.1/\y3.2.2.2=x'.2.2)/\(K5 (L5 M
 y3.2.1).snd).append [u8]=K5 (L5 M x'.1).snd)/\(amP M=true/\x'.1<=afM M/\ad4 M.length (afM M) x'.2.1 x'.2.2 (L5 M x'.1).fst)/\afM M-x'.1<afM M
 - x.1) else u3.length<=aB->u3.length<=aB->axe u1.length none (some (↑u3.length:Int)) (some (↑u3.length:Int))/\(cutL u1 none (some (↑u3.length:Int))=bz
 (amP M) (aaf M)/\K5 (L5 M x.1).snd=bif amP M then abp M else [])/\(0:Int)=bu (amP M))
theorem afK (M:LM):aw LX2 MX1 (agi M) Tryz.f30 (T2 (.agg (.cons (.k (.list (.list .q)) (bz (amP M) (aaf M))) (.cons (.k (.list (.int .i64)) (bif amP M then abp M else [])) .nil))) (.k (.int .i64) (bu (amP M)))) [.k (.list (.list .q)) M]=aec M:=by kernel_rfl
theorem afL (M:LM) (hg:amP M=true->acu M):aec M:=by
 unfold aec;dsimp only;refine en (fun h=>by rw [h];exact ⟨⟨rfl,rfl⟩,rfl⟩) fun hR=>?_
 obtain ⟨m1,m2,m3⟩:=ba hR;have hg:=hg hR;refine ⟨⟨by omega,by omega⟩,fun hL0=>⟨(0,bh M.length M.length,[]::M),⟨⟨rfl,rfl,rfl⟩,⟨rfl,rfl⟩,rfl⟩,⟨hR,ia _,ad4.init m3⟩,fun ⟨c,out,akv⟩ ⟨_,hc,hH⟩=>?_⟩⟩;dsimp only at hc hH ⊢;have hL0:afM M<=aB:=hL0;have ht:=ahk M c;have eL:(K5 (L5 M c).2).length=nx M c:=adq _;rw [eL];refine aH (fun aU pd=>?_) fun iU hL1 n5=>?_
 ·have j7:c<afM M:=by omega
  have hpg:=ai1 M c;have ePv:∀t,pvN (out.map fun p=>akv.getD p []) c t=pivN (L5 M c).1 c t (M.length-t):=fun t=>by rw [hH.rows];exact ahi _ j7
  have eRl:(out.map fun p=>akv.getD p []).length=M.length:=by rw [hH.rows,ab9]
  obtain ⟨t0,t1,t2,hsq⟩:=ahj hg j7;refine ⟨⟨by rw [eRl];exact ht,fun i hi=>?_,(hH.sm hsq t1).le (by omega)⟩,?_⟩
  ·rw [eRl] at hi;rw [hH.rows,na hi,mX];exact j7
  by_cases hp:pvR M c<M.length
  ·have eP:abu (out.map fun p=>akv.getD p []) c (nx M c)=((pvR M c:Nat):Int):=by
    rw [aea (by rw [ePv,eRl];exact hp),ePv];rfl
   rw [eP];have htl:nx M c<M.length:=by omega
   obtain ⟨p1,p2,p3⟩:=idh hH hp;obtain ⟨q1,q2,q3⟩:=idh hH htl;refine aH (fun h=>by omega) fun _=>⟨p1,p2,q1,q2,q1,⟨q2,p3⟩,⟨by omega,by rw [sC];exact p1.2⟩,⟨by rw [sC];exact p2,q3⟩,(c,(out.set (nx M c) (out.getD (pvR M c) 0)).set (pvR M c) (out.getD (nx M c) 0),akv),⟨⟨rfl,rfl,rfl,rfl,rfl⟩,⟨rfl,rfl⟩,rfl⟩,⟨rfl,hR,j7,hp,hH.swap htl hp⟩,fun ⟨c2,o2,pl2⟩ ⟨cG,_,_,_,hS⟩=>?_⟩
   dsimp only at cG hS ⊢;subst cG;have cs:=akX hg j7 hp;obtain ⟨a1,a2,a3⟩:=idh hS htl;obtain ⟨b1,b2⟩:=idc hS htl j7;have eC:=hS.cell 0 htl j7;have amz:=hS.rowLen htl;refine ⟨by unfold ax;omega,a1,a2,b1,b2,⟨?_,?_⟩,a1,a2,fun _=>⟨a3,(0,c2,o2,pl2),⟨⟨rfl,rfl,rfl,rfl,rfl,rfl,by rw [show ((nx M c2:Nat):Int).toNat=nx M c2 from rfl,amz],rfl⟩,?_,⟨rfl,rfl⟩,rfl⟩,⟨rfl,rfl,hR,j7,hp,ia _,hS.congr fun i j _ _=>?_⟩,fun ⟨j,c3,o3,pl3⟩ ⟨cG,hoo,_,_,_,hj,hT⟩=>?_⟩⟩
   ·exact Sq.int (n:=1) (Sm.one.le BQ1) BQ1
   ·rw [show ((nx M c2:Nat):Int).toNat=nx M c2 from rfl,show ((c2:Nat):Int).toNat=c2 from rfl,eC];exact cs.sw _ _
   ·rw [show ((nx M c2:Nat):Int).toNat=nx M c2 from rfl,show ((c2:Nat):Int).toNat=c2 from rfl,eC];rfl
   ·show swR M c2 i j=scT M c2 0 i j;unfold scT;rw [cM fun e=>pw _ e.2]
   dsimp only at cG hoo hj hT ⊢;subst cG;subst hoo;refine aH (fun h=>?_) fun h YE=>?_
   ·have uC:j<afM M:=by omega
    obtain ⟨d1,d2⟩:=idc hT htl uC;obtain ⟨f1,f2,f3⟩:=idh hT htl;have e1:=hT.cell 0 htl uC;refine ⟨d1,d2,f1,f2,⟨?_,cs.k⟩,d1,d2,nQ uC hL0,(j+1,c3,o3,_),⟨⟨rfl,rfl,rfl,rfl,rfl,rfl,rfl,rfl⟩,rfl,⟨rfl,rfl⟩,rfl⟩,⟨rfl,rfl,hR,j7,hp,uC,(hT.amw htl uC _).congr fun i j' _ _=>?_⟩,by show _-(j+1)<_-j;omega⟩
    ·rw [show ((j:Nat):Int).toNat=j from rfl,e1];exact cs.sc _ _ _
    ·rw [show ((j:Nat):Int).toNat=j from rfl,e1];unfold scT;by_cases e2:i=nx M c3
     ·rcases yl j' j with h5 | h5 | h5
      ·rw [cM (by omega),eJ ⟨e2,h5⟩,eJ ⟨e2,by omega⟩]
      ·rw [eJ ⟨e2,h5⟩,cM (by omega),eJ ⟨e2,by omega⟩,e2,h5]
      ·rw [cM (by omega),cM (by omega),cM (by omega)]
     ·rw [cM fun e=>e2 e.1,cM fun e=>e2 e.1,cM fun e=>e2 e.1]
   ·have hTl:=hT.len;refine ⟨(0,c3,o3,pl3),⟨⟨rfl,rfl,rfl,rfl,rfl,by rw [hTl],rfl⟩,⟨rfl,rfl⟩,rfl⟩,⟨rfl,hR,j7,hp,ia _,hT.congr fun i j' _ sH=>?_⟩,fun ⟨i,c4,o4,pl4⟩ ⟨cG,_,_,_,hi,hE⟩=>?_⟩
    ·show scT M c3 j i j'=elT M c3 0 i j';have h0:¬(i≠nx M c3/\i<0):=fun e=>pw _ e.2;unfold scT elT scR wa;rw [cM h0];by_cases e2:i=nx M c3
     ·rw [eJ ⟨e2,by omega⟩,eJ e2]
     ·rw [cM fun e=>e2 e.1,cM e2]
    dsimp only at cG hi hE ⊢;subst cG;have hML:M.length<=aB:=by rw [<-hTl];exact YE
    refine aH (fun h6=>?_) fun h6=>?_
    ·have cw:i<M.length:=by omega
     refine dP (fun h7=>?_) fun h7=>?_
     ·have ay:i≠nx M c4:=fun e=>h7 (by rw [e]);obtain ⟨g1,g2,g3⟩:=idh hE cw;obtain ⟨k1,k2,k3⟩:=idh hE htl;obtain ⟨l1,l2⟩:=idc hE cw j7;have e1:=hE.cell 0 cw j7;have r1:=hE.row i cw;have r2:=hE.row (nx M c4) htl;have v1:∀j',elT M c4 i i j'=scR M c4 i j':=fun j'=>cM fun e=>xZ _ e.2;have v2:∀j',elT M c4 i (nx M c4) j'=scR M c4 (nx M c4) j':=fun j'=>cM fun e=>e.1 rfl;refine ⟨g1,g2,k1,k2,g1,g2,l1,l2,⟨g3,fun e=>ay (hE.inj _ _ htl cw e).symm,?_,?_,?_,?_,fun j'=>?_⟩,nQ cw hML,(i+1,c4,o4,_),⟨⟨rfl,rfl,rfl,rfl,rfl,rfl,rfl⟩,⟨rfl,rfl⟩,rfl⟩,⟨rfl,hR,j7,hp,cw,(hE.set cw (f:=fun j'=>scR M c4 i j'-scR M c4 i c4*scR M c4 (nx M c4) j') ?_).congr fun i' j' _ _=>?_⟩,by show _-(i+1)<_-i;omega⟩;all_goals simp only [show ((i:Nat):Int).toNat=i from rfl,show ((nx M c4:Nat):Int).toNat=nx M c4 from rfl,show ((c4:Nat):Int).toNat=c4 from rfl]
      ·rw [r1,r2,mX,mX]
      ·rw [r1];exact SL.mk (fun _ _=>cs.el _ _ _) BQ1
      ·rw [r2];exact SL.mk (fun _ _=>cs.el _ _ _) BQ1
      ·rw [e1];exact cs.el _ _ _
      ·rw [e1,r2];rcases dz j' (afM M) with sH | sH
       ·rw [fW sH,v1,v2];exact cs.pr _ _ ay
       ·rw [aAu sH,LX];exact Sq.zero _ BQ1
      ·rw [e1,r1,r2,mX];exact bE fun j' sH=>by rw [fW sH,fW sH,v1,v1,v2]
      ·by_cases e2:i'=i
       ·subst e2;rw [eJ rfl];exact (eJ ⟨ay,Cn _⟩).symm
       ·rw [cM e2];unfold elT;by_cases e3:i'≠nx M c4/\i'<i
        ·rw [eJ e3,eJ ⟨e3.1,by omega⟩]
        ·rw [cM e3,cM fun e=>e3 ⟨e.1,by omega⟩]
     ·have e2:i=nx M c4:=by omega
      refine ⟨nQ cw hML,(i+1,c4,o4,pl4),⟨⟨rfl,rfl,rfl,rfl,rfl,rfl,rfl⟩,⟨rfl,rfl⟩,rfl⟩,⟨rfl,hR,j7,hp,cw,hE.congr fun i' j' _ _=>?_⟩,by show _-(i+1)<_-i;omega⟩;show elT M c4 i i' j'=elT M c4 (i+1) i' j';unfold elT;by_cases e3:i'≠nx M c4/\i'<i
      ·rw [eJ e3,eJ ⟨e3.1,by omega⟩]
      ·rw [cM e3,cM fun e=>e3 ⟨e.1,by have:=e.1;omega⟩]
    ·have eS:=aiy hp;have fT:(K5 (L5 M c4).2).length+[((c4:Nat):Int)].length<=aB:=by rw [eL];simp only [yW,Hu];omega
     refine ⟨fT,nQ j7 hL0,(c4+1,o4,pl4),⟨⟨rfl,rfl,rfl⟩,⟨rfl,rfl⟩,?_⟩,⟨hR,j7,?_⟩,by show _-(c4+1)<_-c4;omega⟩
     ·show _=K5 (L5 M (c4+1)).2;rw [eS];exact (ahH _ _).symm
     ·show ad4 _ _ _ _ (L5 M (c4+1)).1;rw [eS];exact hE.congr fun i' j' OK _=>by
       show elT M c4 i i' j'=abA (scR M c4) (nx M c4) c4 i' j';unfold elT abA;by_cases e3:i'=nx M c4
       ·rw [cM fun e=>e.1 e3,eJ e3]
       ·rw [eJ ⟨e3,by omega⟩,cM e3]
  ·have eP:abu (out.map fun p=>akv.getD p []) c (nx M c) = -1:=aeT (by rw [ePv,eRl];exact hp);rw [eP];refine aH (fun _=>⟨nQ j7 hL0,(c+1,out,akv),⟨⟨rfl,rfl,rfl⟩,⟨rfl,rfl⟩,?_⟩,⟨hR,j7,?_⟩,by show _-(c+1)<_-c;omega⟩) fun h=>by omega
   ·show _=K5 (L5 M (c+1)).2;rw [ahh hp]
   ·show ad4 _ _ _ _ (L5 M (c+1)).1;rw [ahh hp];exact hH
 ·have e:c=afM M:=by omega
  subst e;rw [hH.rows];have uN:((nx M (afM M):Nat):Int)<=(((aG M.length (afM M) (L5 M (afM M)).1).length:Nat):Int):=by rw [ab9];omega
  refine ⟨⟨by omega,uN,rfl⟩,⟨?_,?_⟩,?_⟩
  ·rw [aiz hR];show (aG M.length (afM M) (L5 M (afM M)).1).take (nx M (afM M))=_;exact ahw ht
  ·rw [hR];rfl
  ·rw [hR];rfl
theorem ads:aoH (cfg []) aeb:=cf ai2 ai3 Tryz.func30 (by kernel_rfl) fun args g r hn hc hg hf=>by
 replace hc:feReduce args=some (g,r,hn):=hc;unfold feReduce at hc;split at hc
 ·obtain ⟨rfl,rfl,rfl⟩:=aN hc;cases aY (afK _) (afL _ hg);exact ⟨rfl,by kernel_rfl,_,by assumption⟩
 ·cases hc
theorem aeV {F G:Nat->Nat->Rat} {c:Nat}:∀{k t:Nat},(∀i,t<=i->i<t+k->F i c=G i c)->pivN F c t k=pivN G c t k
 | 0,_,_=>rfl
 | k+1,t,h=>by unfold pivN;rw [h t (eM t) (by omega),aeV fun i h1 h2=>h i (by omega) (by omega)]
theorem aed {n m:Nat} {F G:Nat->Nat->Rat} (h:∀i j,i<n->j<m->F i j=G i j):∀c,c<=m->(rr n F c).2=(rr n G c).2/\∀i j,i<n->j<m->(rr n F c).1 i j=(rr n G c).1 i j
 | 0,_=>⟨rfl,h⟩
 | c+1,hc=>by
  obtain ⟨h1,h2⟩:=aed h c (by omega);show (abv n (rr n F c) c).2=(abv n (rr n G c) c).2/\∀i j,i<n->j<m->(abv n (rr n F c) c).1 i j=(abv n (rr n G c) c).1 i j;generalize rr n F c=S at *
  generalize rr n G c=T at *
  obtain ⟨S1,S2⟩:=S;obtain ⟨T1,T2⟩:=T;dsimp only at h1 h2;subst h1;have hp:pivN S1 c S2.length (n-S2.length)=pivN T1 c S2.length (n-S2.length):=aeV fun i h3 h4=>h2 i c (by omega) (by omega);unfold abv;dsimp only;rw [hp];have hpg:=(acn T1 c (n-S2.length) S2.length).1;generalize pivN T1 c S2.length (n-S2.length)=p at *
  by_cases hpn:p<n
  ·rw [eJ hpn,eJ hpn];have sw:∀i j,i<n->j<m->dk S1 S2.length p i j=dk T1 S2.length p i j:=fun i j hi hj=>by
    unfold dk;by_cases e1:i=S2.length
    ·rw [eJ e1,eJ e1];exact h2 _ _ hpn hj
    ·rw [cM e1,cM e1];by_cases e2:i=p
     ·rw [eJ e2,eJ e2];exact h2 _ _ (by omega) hj
     ·rw [cM e2,cM e2];exact h2 _ _ hi hj
   have hr:S2.length<n:=by omega
   have ek:=sw S2.length c hr (by omega);generalize dk S1 S2.length p=A at *
   generalize dk T1 S2.length p=B at *
   rw [ek];have sc:∀i j,i<n->j<m->wa A S2.length (1/B S2.length c) i j=wa B S2.length (1/B S2.length c) i j:=fun i j hi hj=>by unfold wa;rw [sw i j hi hj]
   refine ⟨rfl,fun i j hi hj=>?_⟩;show abA (wa A S2.length (1/B S2.length c)) S2.length c i j=abA (wa B S2.length (1/B S2.length c)) S2.length c i j;unfold abA;rw [sc i j hi hj,sc i c hi (by omega),sc _ j hr hj]
  ·rw [cM hpn,cM hpn];exact ⟨rfl,h2⟩
theorem adf (n:Nat) (F:Nat->Nat->Rat) (c:Nat):∀d,∃l2,(rr n F (c+d)).2=(rr n F c).2++l2/\∀x∈l2,c<=x
 | 0=>⟨[],by simp,fun _ h=>by cases h⟩
 | d+1=>by
  obtain ⟨l2,h1,h2⟩:=adf n F c d;show ∃l2,(abv n (rr n F (c+d)) (c+d)).2=_/\_;unfold abv;split
  ·exact ⟨l2++[c+d],by show _++_=_;rw [h1,yT],fun x hx=>by
    rcases AB.1 hx with hx | hx
    ·exact h2 x hx
    ·have:=tC.1 hx;omega⟩
  ·exact ⟨l2,h1,h2⟩
theorem aj7 {n c:Nat} {F:Nat->Nat->Rat} {x:Nat} (h:x∈(rr n F c).2):x<c:=by obtain ⟨k,hk,rfl⟩:=ahx h 0;exact (aca n F c).lt k hk
theorem ak7 (n:Nat) (F:Nat->Nat->Rat):∀c,(acR (rr n F c).2 c).length+(rr n F c).2.length=c
 | 0=>rfl
 | c+1=>by
  have h:=ak7 n F c;have hm:c ∉ (rr n F c).2:=fun hx=>xZ c (aj7 hx);show (acR (abv n (rr n F c) c).2 (c+1)).length+(abv n (rr n F c) c).2.length=c+1;generalize rr n F c=S at *
  unfold abv;split
  ·show (acR (S.2++[c]) (c+1)).length+(S.2++[c]).length=c+1;rw [agh,eJ (by simp),iS];have e:acR (S.2++[c]) c=acR S.2 c:=by
    unfold acR;refine List.filter_congr fun x hx=>?_
    have hx:x<c:=yZ.1 hx;have:(x∈S.2++[c])↔x∈S.2:=⟨fun h1=>by
     rcases AB.1 h1 with h1 | h1
     ·exact h1
     ·have:=tC.1 h1;omega,fun h1=>AB.2 (.inl h1)⟩
    simp only [this]
   rw [e];simp only [yW,Hu];omega
  ·rw [agh,cM hm,iS];simp only [yW,Hu];omega
theorem acS (f:Nat->Rat) (n:Nat):∀d,sumN f (n+d)=sumN f n+sumN (fun j=>f (n+j)) d
 | 0=>by show sumN f n=_+0;grind
 | d+1=>by
  show sumN f (n+d)+f (n+d)=_+(sumN (fun j=>f (n+j)) d+f (n+d))
  rw [acS f n d];grind
def abB (m:Nat) (A B:Nat->Nat->Rat):Nat->Nat->Rat:=fun i j=>if j<m then A i j else B i (j-m)
theorem agj {m:Nat} {A B:Nat->Nat->Rat} {i j:Nat} (h:j<m):abB m A B i j=A i j:=eJ h
theorem aiF {m:Nat} {A B:Nat->Nat->Rat} {i j:Nat}:abB m A B i (m+j)=B i j:=by unfold abB;rw [cM (by omega),show m+j-m=j by omega]
theorem afi (m d:Nat) (A B:Nat->Nat->Rat) (i:Nat) (x:Nat->Rat):sumN (fun j=>abB m A B i j*x j) (m+d)=sumN (fun j=>A i j*x j) m+sumN (fun j=>B i j*x (m+j)) d:=by rw [acS,uv (g:=fun j=>A i j*x j) fun j hj=>by rw [agj hj],uv (n:=d) (g:=fun j=>B i j*x (m+j)) fun j _=>by rw [aiF]]
theorem agk (n m:Nat) (A B:Nat->Nat->Rat):(rr n (abB m A B) m).2=(rr n A m).2/\∀i j,i<n->j<m->(rr n (abB m A B) m).1 i j=(rr n A m).1 i j:=aed (fun _ _ _ hj=>agj hj) m (eM m)
theorem aef (f:Nat->Rat) {n i:Nat} (h:i<n):sumN (fun j=>iP i j*f j) n=f i:=by rw [ace (a:=i) h fun t _ ay=>by unfold iP;rw [cM (fun e=>ay e.symm)];grind];unfold iP;rw [eJ rfl];grind
theorem aeX (f:Nat->Rat) {n i:Nat} (h:i<n):sumN (fun j=>f j*iP j i) n=f i:=by rw [ace (a:=i) h fun t _ ay=>by unfold iP;rw [cM ay];grind];unfold iP;rw [eJ rfl];grind
theorem afN {n:Nat} {F:Nat->Nat->Rat} (h:∀y,Ker n n F y->∀j,j<n->y j=0):(rr n F n).2.length=n:=by
 have hr:=aca n F n;have bB:∀j,j<n->∃k,k<(rr n F n).2.length/\(rr n F n).2.getD k 0=j:=fun j hj=>by refine G4 fun hn=>?_;have h1:=h _ ((aeM n).1 (hr.col hj fun k hk e=>hn ⟨k,hk,e⟩)) j hj;unfold acm at h1;rw [eJ rfl] at h1;exact absurd h1 (by decide)
 have e:(rr n F n).2=List.range n:=age hr.inc (fun k k' hk sF=>by
  rw [GL] at sF;rw [aV,aV,Hn (by omega),Hn sF];exact hk) (fun k hk=>⟨(rr n F n).2.getD k 0,by rw [GL];exact hr.lt k hk,by rw [aV (l:=List.range n),Hn (hr.lt k hk)];rfl⟩) fun k hk=>by
  rw [GL] at hk;obtain ⟨k',h1,h2⟩:=bB k hk;exact ⟨k',h1,by rw [h2,aV,Hn hk];rfl⟩
 rw [e,GL]
theorem acz (n:Nat) (A:Nat->Nat->Rat):(rr n (abB n A iP) (n+n)).2.length=n:=by
 have hr:=aca n (abB n A iP) (n+n);have hk:∀x,Ker n (n+n) (rr n (abB n A iP) (n+n)).1 x->Ker n (n+n) (abB n A iP) x:=fun x=>(aeM (n+n)).1;refine G4 fun aU=>?_;have hlen:=hr.len;have hl:(rr n (abB n A iP) (n+n)).2.length<n:=by omega
 generalize (rr n (abB n A iP) (n+n)).1=R at *
 generalize (rr n (abB n A iP) (n+n)).2=l at *
 have h0:detF n (fun i j=>R i (n+j))=0:=(acg n).low (r:=l.length) hl fun j hj=>hr.low _ _ (eM _) hl (by omega);refine afd.2 (afN fun y hy j hj=>?_) h0;have h1:=hk (fun t=>if t<n then 0 else y (t-n)) fun i hi=>by rw [acS,acj (n:=n) fun t ht=>by (try dsimp only);rw [eJ ht];grind,uv (g:=fun j=>R i (n+j)*y j) fun t _=>by (try dsimp only);rw [cM (by omega),show n+t-n=t by omega],hy i hi];grind
 have h2:=h1 j hj;rw [afi,acj (n:=n) fun t ht=>by (try dsimp only);rw [eJ ht];grind,uv (g:=fun t=>iP j t*y t) fun t _=>by (try dsimp only);rw [cM (by omega),show n+t-n=t by omega],aef y hj] at h2;grind
theorem aeD {l l2:List Nat} {k:Nat} (h:k<l.length):(l++l2).getD k 0=l.getD k 0:=xT h 0
def abW (n:Nat) (A:Nat->Nat->Rat):Nat->Nat->Rat:=fun i j=>(rr n (abB n A iP) (n+n)).1 i (n+j)
theorem ahO {n:Nat} {A:Nat->Nat->Rat} (h:(rr n A n).2.length=n):∀i j,i<n->j<n->(rr n (abB n A iP) (n+n)).1 i j=iP i j:=fun i j hi hj=>by have hf:=acz n A;have hr:=aca n (abB n A iP) (n+n);obtain ⟨l2,h1,_⟩:=adf n (abB n A iP) n n;rw [(agk n n A iP).1] at h1;have h2:=hr.one j i (by omega) hi;rw [h1,aeD (by omega),(aca n A n).full h j hj] at h2;rw [h2];rfl
theorem agm {n:Nat} {A:Nat->Nat->Rat} (h:(rr n A n).2.length=n) (x:Nat->Rat):(∀i,i<n->sumN (fun j=>A i j*x j) n+x (n+i)=0)↔∀i,i<n->x i+sumN (fun j=>abW n A i j*x (n+j)) n=0:=by
 have hk:=aeM (n:=n) (m:=n+n) (F:=abB n A iP) (x:=x) (n+n);have e1:Ker n (n+n) (abB n A iP) x↔∀i,i<n->sumN (fun j=>A i j*x j) n+x (n+i)=0:=by
  unfold Ker;refine forall_congr' fun i=>forall_congr' fun hi=>?_
  rw [afi,aef (fun j=>x (n+j)) hi]
 have e2:Ker n (n+n) (rr n (abB n A iP) (n+n)).1 x↔∀i,i<n->x i+sumN (fun j=>abW n A i j*x (n+j)) n=0:=by
  unfold Ker;refine forall_congr' fun i=>forall_congr' fun hi=>?_
  rw [acS,uv (n:=n) (g:=fun j=>iP i j*x j) fun j hj=>by rw [ahO h i j hi hj],aef x hi];exact Iff.rfl
 exact e1.symm.trans (hk.symm.trans e2)
theorem agU {n:Nat} {A:Nat->Nat->Rat} (h:(rr n A n).2.length=n):c6 n (dw A (abW n A) n) iP:=fun i c hi hc=>by
 have h1:=(agm h (fun t=>if t<n then -abW n A t c else iP (t-n) c)).2 (fun i hi=>by rw [eJ hi,uv (g:=fun j=>abW n A i j*iP j c) fun j _=>by (try dsimp only);rw [cM (by omega),show n+j-n=j by omega],aeX (fun j=>abW n A i j) hc];grind) i hi
 rw [cM (by omega),show n+i-n=i by omega,uv (g:=fun j=> -1*(A i j*abW n A j c)) fun j hj=>by (try dsimp only);rw [eJ hj];grind,abC, <- abt] at h1;grind
theorem akQ (m:Nat) (A:Nat->Nat->Rat) (b:Nat->Rat):abD m A b=abB m A fun i _=>b i:=rfl
def ajj (n m:Nat) (A:Nat->Nat->Rat) (b:Nat->Rat):Bool:=(rr n (abD m A b) (m+1)).2.all fun x=>decide (x<m)
theorem adn {n m:Nat} {A:Nat->Nat->Rat} {b:Nat->Rat}:ajj n m A b=true↔∀x∈(rr n (abD m A b) (m+1)).2,x<m:=by unfold ajj;rw [Ah];exact ⟨fun h x hx=>Dd (h x hx),fun h x hx=>xX (h x hx)⟩
theorem ami {n m:Nat} {A:Nat->Nat->Rat} {b:Nat->Rat} (h:ajj n m A b=true):rr n (abD m A b) (m+1)=rr n (abD m A b) m:=by
 have h:∀x∈(rr n (abD m A b) (m+1)).2,x<m:=adn.1 h;show abv n (rr n (abD m A b) m) m=_;have h:∀x∈(abv n (rr n (abD m A b) m) m).2,x<m:=h;unfold abv at h ⊢;split
 ·rename_i hp;rw [eJ hp] at h;exact absurd (h m (by simp)) (xZ m)
 ·rfl
theorem alD {n m:Nat} {A:Nat->Nat->Rat} {b:Nat->Rat} (h:ajj n m A b=false):(rr n (abD m A b) (m+1)).2=(rr n A m).2++[m]:=by
 have h:¬ ∀x∈(rr n (abD m A b) (m+1)).2,x<m:=fun hx=>by rw [adn.2 hx] at h;cases h
 have hj:=(agk n m A fun i _=>b i).1;rw [<-akQ] at hj;rw [<-hj];have h:¬ ∀x∈(abv n (rr n (abD m A b) m) m).2,x<m:=h;show (abv n (rr n (abD m A b) m) m).2=_;unfold abv at h ⊢;split
 ·rfl
 ·rename_i hp;rw [cM hp] at h;exact absurd (fun x hx=>aj7 hx) h
theorem akR {n m:Nat} {A:Nat->Nat->Rat} {b:Nat->Rat} (h:ajj n m A b=true):(rr n (abD m A b) (m+1)).2=(rr n A m).2/\∀i j,i<n->j<m->(rr n (abD m A b) (m+1)).1 i j=(rr n A m).1 i j:=by rw [ami h];have hj:=agk n m A fun i _=>b i;rw [<-akQ] at hj;exact hj
def ak8 (n m:Nat) (A:Nat->Nat->Rat) (b:Nat->Rat):Nat->Rat:=akD m (rr n (abD m A b) (m+1)).1 (rr n (abD m A b) (m+1)).2
theorem ahQ {l:List Nat} {k c:Nat} (h:c∈acR l k):c<k/\c ∉ l:=by unfold acR at h;obtain ⟨h1,h2⟩:=GM.1 h;exact ⟨yZ.1 h1,fun hc=>by simp [hc] at h2⟩
theorem agn {F G:Nat->Nat->Rat} {l:List Nat} {n k:Nat} (h:∀i j,i<l.length->j<k->F i j=G i j):abo F l n k=abo G l n k:=by
 unfold abo;refine Mq fun c hc=>bE fun t _=>?_
 have hc:=(ahQ hc).1;unfold acm;by_cases e:t=c
 ·rw [eJ e,eJ e]
 ·rw [cM e,cM e];by_cases e2:l.idxOf t<l.length
  ·rw [eJ e2,eJ e2,h _ _ e2 hc]
  ·rw [cM e2,cM e2]
theorem ahR (F:Nat->Nat->Rat) (l:List Nat) (n k:Nat):(abo F l n k).length=(acR l k).length:=yv ..
def R2 (L:List Int):List Nat:=L.map Int.toNat
theorem ai4 (l:List Nat):R2 (K5 l)=l:=by unfold R2 K5;rw [List.map_map];exact (Mq fun x _=>rfl).trans (List.map_id l)
structure aeY (R:LM) (l:List Nat) (n:Nat):Prop where
 inc:∀k k',k<k'->k'<l.length->l.getD k 0<l.getD k' 0
 lt:∀k,k<l.length->l.getD k 0<n
 len:l.length<=R.length
 row:∀k,k<l.length->n<=(R.getD k []).length
 sm:SM BQ R
noncomputable def LX3:List az:=aeb::[]
theorem ai5:bd LX3:=⟨ads,trivial⟩
def feRank:CF
 | [.k (.list (.list .q)) M]=>some (some (amP M=true->acu M),T2 (.k (.int .i64) (((bif amP M then abp M else []).length:Nat):Int)) (.k (.int .i64) (bu (amP M))),[])
 | _=>none
def ahl:az:=⟨9,false,feRank⟩
def ahS (M:LM):bk:=⟨nU,nL,nR,nU⟩
def afO (M:LM):Prop:=(amP M=true->acu M)/\((bif amP M then abp M else []).length<=(9223372036854775807:Nat)->(↑(bif amP M then abp M else []).length:Int)=(↑(bif
 amP M then abp M else []).length:Int)/\bu (amP M)=bu (amP M))
theorem agV (M:LM):aw LX3 [] (ahS M) Tryz.f9 (T2 (.k (.int .i64) (((bif amP M then abp M else []).length:Nat):Int)) (.k (.int .i64) (bu (amP M)))) [.k (.list (.list .q)) M]=afO M:=by kernel_rfl
theorem agW (M:LM) (hg:amP M=true->acu M):afO M:=by unfold afO;exact ⟨hg,fun _=>⟨rfl,rfl⟩⟩
theorem agX:aoH (cfg []) ahl:=cf ai5 bp Tryz.func9 (by kernel_rfl) fun args g r hn hc hg hf=>by
 replace hc:feRank args=some (g,r,hn):=hc;unfold feRank at hc;split at hc
 ·obtain ⟨rfl,rfl,rfl⟩:=aN hc;cases aY (agV _) (agW _ hg);exact ⟨rfl,by kernel_rfl,_,by assumption⟩
 ·cases hc
theorem amC {b:List Rat} {i:Nat} (h:i<b.length):cutL b (some (i:Int)) (some ((i:Int)+1))=[b.getD i 0]:=by show (b.take ((i:Int)+1).toNat).drop (i:Int).toNat=_;rw [show ((i:Int)+1).toNat=i+1 by omega,show (i:Int).toNat=i from rfl,uW h 0,List.drop_left' (by rw [qX];omega)]
def abJ (b:List Rat):LM:=aA b.length fun i=>[b.getD i 0]
noncomputable def LX4:List az:=aa5::V9::[]
theorem afQ:bd LX4:=⟨V5,Qc,trivial⟩
def feColumn:CF
 | [.k (.list .q) b]=>some (none,.k (.list (.list .q)) (abJ b),[])
 | _=>none
def ala:az:=⟨102,false,feColumn⟩
def alE (b:List Rat):bk:=⟨nU,fun key_=>match key_ with
 | 3=>some (⟨Nat,fun i=>[(0,.k (.list .q) b),(3,.own 7 0 1),(9,.k (.int .i64) ((b.length:Nat):Int)),(10,.k (.int .i64) ((i:Nat):Int))],
 fun i=>[(7,.arr 36 (.list .q) (aA b.length fun t=>if t<i then [b.getD t 0] else []))],fun _ i=>i<=b.length,fun i=>b.length-i⟩) | _=>none,nR,nU⟩
def akx (b:List Rat):Prop:=b.length<=aB->(0<=(↑b.length:Int)/\(↑b.length:Int)<=(↑b.length:Int)/\(↑b.length:Int)<=(1099511627776:Int))/\(b.length<=aB->∃(x0:Nat),((b
 = b/\(↑b.length:Int)=↑b.length/\(0:Int)=(↑x0:Int))/\List.map (fun (p:Nat)=>[[]].getD p []) (List.replicate (↑b.length:Int).toNat (0:Nat)) =
 aA b.length fun (t:Nat)=>if t<x0 then [b.getD t 0] else [])/\x0<=b.length/\∀(x:Nat),let u1:=(↑x:Int)+1;x<=b.length->bif decide ((↑x
 : Int)<↑b.length) then ax u1/\ax u1/\axe b.length (some (↑x:Int)) (some u1) (some u1)/\(0<=(↑x:Int)/\(↑x:Int)<↑(aA b.length fun (t :
 Nat)=>if t<x then [b.getD t 0] else []).length)/\(↑x:Int).toNat<(aA b.length fun (t:Nat)=>if t<x then [b.getD t 0] else []).length
 /\ ax u1/\∃(x':Nat),((b=b/\(↑b.length:Int)=↑b.length/\(↑x:Int)+1=↑x')/\(aA b.length fun (t:Nat)=>if t<x then [b.getD t
 (0:Rat)] else []).set (↑x:Int).toNat (cutL b (some (↑x:Int)) (some u1))=aA b.length fun (t:Nat)=>if t<x' then [b.getD t 0] else [])/\x'<=b.length
 /\ b.length-x'<b.length-x else (aA b.length fun (t:Nat)=>if t<x then [b.getD t 0] else [])=abJ b)
theorem ali (b:List Rat):aw LX4 [] (alE b) Tryz.f102 (.k (.list (.list .q)) (abJ b)) [.k (.list .q) b]=akx b:=by kernel_rfl
theorem alj (b:List Rat) (hf:cJ [.k (.list .q) b]):akx b:=by
 unfold akx;intro hL;have Bn:=hL;unfold aB at Bn;refine ⟨⟨by omega,by omega,by omega⟩,fun _=>⟨0,⟨⟨rfl,rfl,rfl⟩,?_⟩,ia _,fun i hi=>aH (fun h=>?_) fun h=>?_⟩⟩
 ·exact (List.map_replicate ..).trans ((iO _ _).trans (bE fun t _=>(cM (pw t)).symm))
 ·have cw:i<b.length:=by omega
  refine ⟨nQ cw hL,nQ cw hL,⟨by omega,by omega,by omega,rfl⟩,by rw [mX];exact idx h,by rw [mX];exact cw,nQ cw hL,i+1,⟨⟨rfl,rfl,rfl⟩,?_⟩,by omega,by omega⟩;rw [show ((i:Nat):Int).toNat=i from rfl,mY cw,amC cw];refine bE fun t _=>?_;by_cases e:t=i
  ·rw [eJ e,eJ (by omega),e]
  ·rw [cM e];by_cases e2:t<i
   ·rw [eJ e2,eJ (by omega)]
   ·rw [cM e2,cM (by omega)]
 ·exact bE fun t ht=>eJ (by omega)
theorem alk:aoH (cfg []) ala:=cf afQ bp Tryz.func102 (by kernel_rfl) fun args g r hn hc hg hf=>by
 replace hc:feColumn args=some (g,r,hn):=hc;unfold feColumn at hc;split at hc
 ·obtain ⟨rfl,rfl,rfl⟩:=aN hc;cases aY (ali _) (alj _ hf);exact ⟨rfl,by kernel_rfl,_,by assumption⟩
 ·cases hc
def ab6 (M N:LM):LM:=aA M.length fun i=>M.getD i []++N.getD i []
def feBeside:CF
 | [.k (.list (.list .q)) M,.k (.list (.list .q)) N]=>some (some (M.length<=N.length/\(∀i,i<M.length->0<(N.getD i []).length)/\∀i,i<M.length->(M.getD i []).length+(N.getD i []).length<=aB),.k (.list (.list .q)) (ab6 M N),[])
 | _=>none
def afj:az:=⟨101,false,feBeside⟩
def ago (M N:LM):bk:=⟨fun key_=>match key_ with | 5=>12 | _=>0,fun key_=>match key_ with
 | 3=>some (⟨Nat,fun i=>[(1,.k (.list (.list .q)) N),(5,.own 10 0 1),(11,.k (.list (.list .q)) M),(12,.k (.int .i64) ((M.length:Nat):Int)),(13,.k (.int .i64) ((i:Nat):Int))],
 fun i=>[(10,.bc 36 45 .q (bh M.length i) ([]::aA i fun t=>M.getD t []++N.getD t []))],fun _ i=>i<=M.length,fun i=>M.length-i⟩) | _=>none,nR,nU⟩
def aeg (M N:LM):Prop:=M.length<=aB->(0<=(↑M.length:Int)/\(↑M.length:Int)<=(↑M.length:Int)/\(↑M.length:Int)<=(1099511627776:Int))/\(M.length<=aB->∃(x0:Nat),((N
 = N/\M=M/\(↑M.length:Int)=↑M.length/\(0:Int)=(↑x0:Int))/\List.replicate (↑M.length:Int).toNat (0:Nat)=bh M.length x0/\[[]]=[]::aA x0
 fun (t:Nat)=>M.getD t []++N.getD t [])/\x0<=M.length/\∀(x:Nat),let u3:=N.getD (↑x:Int).toNat [];
 let u2:=[]::aA x fun (t:Nat)=>M.getD t []++N.getD t [];let u1:=M.getD (↑x:Int).toNat [];x<=M.length->bif decide ((↑x:Int)<↑M.length) then
 (0<=(↑x:Int)/\(↑x:Int)<↑M.length)/\axe u1.length none (some (↑u1.length:Int)) (some (↑u1.length:Int))/\(0<=(↑x:Int)/\(↑x:Int)
 < (↑N.length:Int))/\((0:Nat)<u3.length/\(cutL u1 none (some (↑u1.length:Int))).length+u3.length<=aB)/\(0<=(↑x:Int)/\(↑x:Int)<↑(bh
 M.length x).length)/\((↑x:Int).toNat<(bh M.length x).length/\u2.length<(u2++[(cutL u1 none (some (↑u1.length:Int))).append u3]).length)/\ax ((↑x :
 Int)+(1:Int))/\∃(x':Nat),((N=N/\M=M/\(↑M.length:Int)=↑M.length/\(↑x:Int)+1=↑x')/\(bh M.length x).set (↑x:Int).toNat
 (u2.length)=bh M.length x'/\u2++[(cutL u1 none (some (↑u1.length:Int))).append u3]=[]::aA x' fun (t:Nat)=>M.getD t []++N.getD t [])/\x'<=M.length /\
 M.length-x'<M.length-x else List.map (fun (p:Nat)=>u2.getD p []) (bh M.length x)=ab6 M N)
theorem afR (M N:LM):aw LX4 [] (ago M N) Tryz.f101 (.k (.list (.list .q)) (ab6 M N)) [.k (.list (.list .q)) M,.k (.list (.list .q)) N]=aeg M N:=by kernel_rfl
theorem afS (M N:LM) (hg:M.length<=N.length/\(∀i,i<M.length->0<(N.getD i []).length)/\∀i,i<M.length->(M.getD i []).length+(N.getD i []).length<=aB):aeg M N:=by
 obtain ⟨h1,h2,h3⟩:=hg;unfold aeg;intro hL;have Bn:=hL;unfold aB at Bn;refine ⟨⟨by omega,by omega,by omega⟩,fun _=>⟨0,⟨⟨rfl,rfl,rfl,rfl⟩,x8 _,rfl⟩,ia _,fun i hi=>aH (fun h=>?_) fun h=>?_⟩⟩
 ·have cw:i<M.length:=by omega
  have e:cutL (M.getD ((i:Nat):Int).toNat []) none (some (((M.getD ((i:Nat):Int).toNat []).length:Nat):Int))=M.getD i []:=x9;rw [e];refine ⟨idx h,⟨by omega,by omega,rfl⟩,⟨by omega,by omega⟩,⟨h2 i cw,h3 i cw⟩,by rw [aqK];exact idx h,⟨by rw [aqK];exact cw,by simp⟩,nQ cw hL,i+1,⟨⟨rfl,rfl,rfl,rfl⟩,?_,?_⟩,by omega,by omega⟩
  ·rw [yW,mX];exact As cw
  ·exact Ga (List.cons []) (tI i fun t=>M.getD t []++N.getD t []).symm
 ·have e:i=M.length:=by omega
  subst e;unfold bh ab6;rw [sv];exact bE fun t ht=>by rw [eJ ht,CR,fW ht]
theorem afT:aoH (cfg []) afj:=cf afQ bp Tryz.func101 (by kernel_rfl) fun args g r hn hc hg hf=>by
 replace hc:feBeside args=some (g,r,hn):=hc;unfold feBeside at hc;split at hc
 ·obtain ⟨rfl,rfl,rfl⟩:=aN hc;cases aY (afR _ _) (afS _ _ hg);exact ⟨rfl,by kernel_rfl,_,by assumption⟩
 ·cases hc
theorem ac0 {l:List Nat} (inc:∀k k',k<k'->k'<l.length->l.getD k 0<l.getD k' 0) {x c:Nat} (h3:∀k,k<x->l.getD k 0<c) (h4:x<l.length->c<=l.getD x 0):c∈l↔x<l.length/\l.getD x 0=c:=by
 constructor
 ·intro hm;obtain ⟨k,hk,e⟩:=ahx hm 0;rcases yl k x with h | h | h
  ·have:=h3 k h;omega
  ·subst h;exact ⟨hk,e⟩
  ·have:=inc x k h hk;have:=h4 (by omega);omega
 ·intro ⟨h1,h2⟩;rw [<-h2];exact Ao h1 0
theorem aiG {n:Nat} {F:Nat->Nat->Rat} {l:List Nat} {c:Nat} (inc:∀k k',k<k'->k'<l.length->l.getD k 0<l.getD k' 0) (hc:c ∉ l):aA n (acN l (fun k=> -F k c) (fun t=>if t=c then 1 else 0) l.length)=aA n (acm F l c):=bE fun t _=>by
 rw [aiw (fun i j hij hj e=>by have:=inc i j hij hj;omega)];unfold acm;by_cases e:t=c
 ·rw [eJ e,cM (fun h=>hc (by rw [<-e, <- ado h];exact Ao h 0)),eJ e]
 ·rw [cM e,cM e]
theorem ahm {l:List Nat} (inc:∀k k',k<k'->k'<l.length->l.getD k 0<l.getD k' 0):∀k,k<l.length->k<=l.getD k 0
 | 0,_=>ia _
 | k+1,h=>by have:=ahm inc k (by omega);have:=inc k (k+1) (by omega) h;omega
theorem ai7 (F:Nat->Nat->Rat) (l:List Nat) (n k:Nat):(abo F l n k).length<=k:=by rw [ahR];unfold acR;exact jW (LW _ _) (Ri GL)
def fekernel:CF
 | [.agg (.cons (.k (.list (.list .q)) R) (.cons (.k (.list (.int .i64)) L) .nil)),.k (.int .i64) ((n:Nat):Int)]=>some (some (L=K5 (R2 L)/\aeY R (R2 L) n/\n<=aB),.k (.list (.list .q)) (abo (el R) (R2 L) n n),[])
 | _=>none
def afk:az:=⟨103,false,fekernel⟩
def agp (R:LM) ( L:List Int) (n:Nat):bk:=⟨nU,fun key_=>match key_ with
 | 4=>some (⟨Nat×Nat,fun p=>[(1,.k (.int .i64) ((n:Nat):Int)),(2,.pt 2 0 2 0 0),(5,.own 61 0 1),(6,.k (.int .i64) ((p.2:Nat):Int)),(11,.k (.int .i64) ((n:Nat):Int)),(12,.k (.int .i64) ((p.1:Nat):Int))],
 fun p=>[(2,.box 76 (.agg (.cons (.k (.list (.list .q)) R) (.cons (.k (.list (.int .i64)) L) .nil)))),(61,.bc 36 45 .q (aA (abo (el R) (R2 L) n p.1).length fun t=>t) (abo (el R) (R2 L) n p.1))],
 fun _ p=>p.1<=n/\p.2<=(R2 L).length/\(∀k,k<p.2->(R2 L).getD k 0<p.1)/\(p.2<(R2 L).length->p.1<=(R2 L).getD p.2 0),fun p=>n-p.1⟩)
 | 11=>some (⟨Nat×Nat×Nat,fun p=>[(1,.k (.int .i64) ((n:Nat):Int)),(2,.pt 2 0 2 0 0),(5,.own 61 0 1),(6,.k (.int .i64) ((p.2.2:Nat):Int)),(7,.k (.int .i64) ((p.2.1:Nat):Int)),(8,.own 32 0 5),(11,.k (.int .i64) ((n:Nat):Int)),(12,.k (.int .i64) ((p.2.1:Nat):Int)),(38,.k (.list (.int .i64)) L),(39,.k (.int .i64) ((L.length:Nat):Int)),(40,.k (.int .i64) ((p.1:Nat):Int))],
 fun p=>[(2,.box 76 (.agg (.cons (.k (.list (.list .q)) R) (.cons (.k (.list (.int .i64)) L) .nil)))),(32,.arr 45 .q (aA n (acN (R2 L) (fun k=> -el R k p.2.1) (fun t=>if t=p.2.1 then 1 else 0) p.1))),(61,.bc 36 45 .q (aA (abo (el R) (R2 L) n p.2.1).length fun t=>t) (abo (el R) (R2 L) n p.2.1))],
 fun q p=>p.2=q.2/\p.1<=L.length,fun p=>L.length-p.1⟩) | _=>none,nR,nU⟩
def aco (R:LM) ( L:List Int) (n:Nat) (x:Nat×Nat):Prop:=∃(x0:Nat×Nat×Nat),(((↑n:Int)=↑n/\(↑x.2:Int)=↑x0.2.2/\(↑x.1:Int)=↑x0.2.1/\(↑n:Int)=↑n/\(↑x.1:Int)=(↑x0.2.1
 : Int)/\L=L/\(↑L.length:Int)=↑L.length/\(0:Int)=(↑x0.1:Int))/\(R=R/\L=L)/\(List.replicate (↑n:Int).toNat (0:Rat)).set (↑x.1:Int).toNat
 (↑(1:Int):Rat)=aA n (acN (R2 L) (fun (k:Nat)=> -el R k x0.2.1) (fun (t:Nat)=>if t=x0.2.1 then (1:Rat) else (0:Rat)) x0.1)/\((aA (abo (el R) (R2
 L) n x.1).length fun (t:Nat)=>t)=aA (abo (el R) (R2 L) n x0.2.1).length fun (t:Nat)=>t)/\abo (el R) (R2 L) n x.1=abo (el R) (R2 L) n x0.2.1)/\(x0.2 =
 x0.2/\x0.1<=L.length)/\∀(y1:Nat×Nat×Nat),let u3:=(↑y1.2.1:Int);let u2:=aA (abo (el R) (R2 L) n y1.2.1).length fun (t:Nat)=>t;
 let u1:=acN (R2 L) (fun (k:Nat)=> -el R k y1.2.1) (fun (t:Nat)=>if t=y1.2.1 then (1:Rat) else (0:Rat)) y1.1;y1.2=x0.2/\y1.1<=L.length->bif decide
 ((↑y1.1:Int)<↑L.length) then (0<=(↑y1.1:Int)/\(↑y1.1:Int)<↑L.length)/\(0<=(↑y1.1:Int)/\(↑y1.1:Int)<↑R.length)
 /\ ((0:Int)<=u3/\u3<(↑(R.getD (↑y1.1:Int).toNat []).length:Int))/\Sq BQ ((R.getD (↑y1.1:Int).toNat []).getD u3.toNat 0)/\((0:Int)<=L.getD (↑y1.1 :
 Int).toNat 0/\L.getD (↑y1.1:Int).toNat 0<(↑(aA n u1).length:Int))/\(L.getD (↑y1.1:Int).toNat 0).toNat<(aA n u1).length/\ax
 ((↑y1.1:Int)+1)/\∃(x':Nat×Nat×Nat),(((↑n:Int)=↑n/\(↑y1.2.2:Int)=↑x'.2.2/\u3=(↑x'.2.1:Int)/\(↑n:Int)=↑n /\
 u3=(↑x'.2.1:Int)/\L=L/\(↑L.length:Int)=↑L.length/\(↑y1.1:Int)+1=↑x'.1)/\(R=R/\L=L)/\(aA n u1).set (L.getD (↑y1.1 :
 Int).toNat 0).toNat (-(R.getD (↑y1.1:Int).toNat []).getD u3.toNat 0)=aA n (acN (R2 L) (fun (k:Nat)=> -el R k x'.2.1) (fun (t:Nat)=>if t =
 x'.2.1 then (1:Rat) else (0:Rat)) x'.1)/\(u2=aA (abo (el R) (R2 L) n x'.2.1).length fun (t:Nat)=>t)/\abo (el R) (R2 L) n y1.2.1=abo (el R) (R2 L) n
 x'.2.1)/\(x'.2=x0.2/\x'.1<=L.length)/\L.length-x'.1<L.length-y1.1 else (u2.length+1<=aB/\((abo (el R) (R2 L) n y1.2.1).length)<(abo (el R)
 (R2 L) n y1.2.1++[aA n u1]).length)/\ax (u3+(1:Int))/\∃(x':Nat×Nat),(((↑n:Int)=↑n/\(↑y1.2.2:Int)=↑x'.2/\(↑n:Int)=(↑n :
 Int)/\u3+(1:Int)=(↑x'.1:Int))/\(R=R/\L=L)/\(u2++[((abo (el R) (R2 L) n y1.2.1).length)]=aA (abo (el R) (R2 L) n x'.1).length fun (t:Nat)=>t)
 /\ abo (el R) (R2 L) n y1.2.1++[aA n u1]=abo (el R) (R2 L) n x'.1)/\(x'.1<=n/\x'.2<=(R2 L).length/\(∀(k:Nat),k<x'.2->(R2 L).getD k 0<x'.1)
 /\ (x'.2<(R2 L).length->x'.1<=(R2 L).getD x'.2 0))/\n-x'.1<n-x.1
def aei (R:LM) ( L:List Int) (n:Nat):Prop:=
 let t1:=List.replicate (↑n:Int).toNat (0:Rat);
 ∃(x0:Nat×Nat),(((↑n:Int)=↑n/\(0:Int)=(↑x0.2:Int)/\(↑n:Int)=↑n/\(0:Int)=(↑x0.1:Int))/\(R=R/\L=L)/\(aA (abo (el R)
 (R2 L) n x0.1).length fun (t:Nat)=>t)=[]/\abo (el R) (R2 L) n x0.1=[])/\(x0.1<=n/\x0.2<=(R2 L).length/\(∀(k:Nat),k<x0.2->(R2 L).getD k 0
 < x0.1)/\(x0.2<(R2 L).length->x0.1<=(R2 L).getD x0.2 0))/\∀(x:Nat×Nat),x.1<=n/\x.2<=(R2 L).length/\(∀(k:Nat),k<x.2->(R2 L).getD k (0 :
 Nat)<x.1)/\(x.2<(R2 L).length->x.1<=(R2 L).getD x.2 0)->bif decide ((↑x.1:Int)<↑n) then L.length<=(9223372036854775807:Nat)->bif decide
 ((↑x.2:Int)<↑L.length) then (0<=(↑x.2:Int)/\(↑x.2:Int)<↑L.length)/\bif decide (L.getD (↑x.2:Int).toNat 0=(↑x.1:Int))
 then ax ((↑x.2:Int)+1)/\ax ((↑x.1:Int)+1)/\∃(x':Nat×Nat),(((↑n:Int)=↑n/\(↑x.2:Int)+1=↑x'.2/\(↑n :
 Int)=(↑n:Int)/\(↑x.1:Int)+1=↑x'.1)/\(R=R/\L=L)/\((aA (abo (el R) (R2 L) n x.1).length fun (t:Nat)=>t)=aA (abo (el R) (R2 L)
 n x'.1).length fun (t:Nat)=>t)/\abo (el R) (R2 L) n x.1=abo (el R) (R2 L) n x'.1)/\(x'.1<=n/\x'.2<=(R2 L).length/\(∀(k:Nat),k<x'.2->(R2 L).getD k
 (0:Nat)<x'.1)/\(x'.2<(R2 L).length->x'.1<=(R2 L).getD x'.2 0))/\n-x'.1<n-x.1 else (0<=(↑n:Int)/\(↑n:Int)<=(↑n:Int)/\(↑n:Int)
 <= (1099511627776:Int))/\ax (1:Int)/\(0<=(↑x.1:Int)/\(↑x.1:Int)<↑t1.length)/\(↑x.1:Int).toNat<t1.length/\(L.length <=
 (9223372036854775807:Nat)->aco R L n x) else (0<=(↑n:Int)/\(↑n:Int)<=(↑n:Int)/\(↑n:Int)<=(1099511627776:Int))/\ax (1:Int)/\((0 :
 Int)<=(↑x.1:Int)/\(↑x.1:Int)<↑t1.length)/\(↑x.1:Int).toNat<t1.length/\(L.length<=(9223372036854775807:Nat)->aco R L n x) else List.map
 (fun (p:Nat)=>(abo (el R) (R2 L) n x.1).getD p []) (aA (abo (el R) (R2 L) n x.1).length fun (t:Nat)=>t)=abo (el R) (R2 L) n n
theorem afU (R:LM) ( L:List Int) (n:Nat):aw LX4 [] (agp R L n) Tryz.f103 (.k (.list (.list .q)) (abo (el R) (R2 L) n n)) [.agg (.cons (.k (.list (.list .q)) R) (.cons (.k (.list (.int .i64)) L) .nil)),.k (.int .i64) ((n:Nat):Int)]=aei R L n:=by kernel_rfl
theorem afW (R:LM) ( L:List Int) (n:Nat) (hg:L=K5 (R2 L)/\aeY R (R2 L) n/\n<=aB):aei R L n:=by
 obtain ⟨eL,hK,hn⟩:=hg;generalize hl:R2 L=l at *
 subst eL;have eC:(K5 l).length=l.length:=adq l;have hn':=hn;unfold aB at hn';have inc:=hK.inc;have body:∀c x,c<n->c ∉ l->x<=l.length->(∀k,k<x->l.getD k 0<c)->(x<l.length->c<=l.getD x 0)->aco R (K5 l) n (c,x):=fun c x hc hm h2 h3 h4=>by
  unfold aco;rw [hl];refine ⟨(0,c,x),⟨⟨rfl,rfl,rfl,rfl,rfl,rfl,rfl,rfl⟩,⟨rfl,rfl⟩,?_,rfl,rfl⟩,⟨rfl,ia _⟩,fun ⟨i,c2,x2⟩ ⟨e,hi⟩=>?_⟩
  ·show (List.replicate n (0:Rat)).set c 1=aA n fun t=>if t=c then 1 else 0
   rw [iO,mY hc]
  ·obtain ⟨rfl,rfl⟩:c2=c/\x2=x:=⟨Ga Prod.fst e,Ga Prod.snd e⟩
   dsimp only at hi ⊢;rw [eC] at hi ⊢;refine aH (fun h=>?_) fun h=>?_
   ·have cw:i<l.length:=by omega
    have hr:=hK.row i cw;have aU:=hK.lt i cw;have hle:=hK.len;have e1:=afF cw;have e3:((K5 l).getD i 0).toNat=l.getD i 0:=by omega
    have iU:=ahm inc i cw;refine ⟨idx h,⟨by omega,by omega⟩,⟨by omega,by show (c2:Int)<(((R.getD i []).length:Nat):Int);omega⟩,hK.sm i c2,⟨by show (0:Int)<=(K5 l).getD i 0;omega,by rw [mX];show (K5 l).getD i 0<(n:Int);omega⟩,by rw [mX];show ((K5 l).getD i 0).toNat<n;omega,by unfold ax;omega,(i+1,c2,x2),⟨⟨rfl,rfl,rfl,rfl,rfl,rfl,rfl,rfl⟩,⟨rfl,rfl⟩,?_,rfl,rfl⟩,⟨rfl,cw⟩,by show _-(i+1)<_-i;omega⟩;show (aA n _).set ((K5 l).getD i 0).toNat _=_;rw [e3];exact mY aU
   ·have e:i=l.length:=by omega
    subst e;have hk:=ai7 (el R) l n c2;have eK:abo (el R) l n (c2+1)=abo (el R) l n c2++[aA n (acm (el R) l c2)]:=by rw [aeS,cM hm]
    rw [aiG inc hm];refine ⟨⟨by rw [mX];unfold aB;omega,by simp⟩,by unfold ax;omega,(c2+1,x2),⟨⟨rfl,rfl,rfl,rfl⟩,⟨rfl,rfl⟩,?_,eK.symm⟩,⟨hc,h2,fun k hk=>by have:=h3 k hk;omega,fun h=>?_⟩,by show _-(c2+1)<_-c2;omega⟩
    ·show _=aA (abo (el R) l n (c2+1)).length fun t=>t;rw [eK,iS];exact (tI _ fun t=>t).symm
    ·have h5:=h4 h;have h6:l.getD x2 0≠c2:=fun e=>hm ((ac0 inc h3 h4).2 ⟨h,e⟩);show c2+1<=l.getD x2 0;omega
 unfold aei;dsimp only;rw [hl,eC];refine ⟨(0,0),⟨⟨rfl,rfl,rfl,rfl⟩,⟨rfl,rfl⟩,rfl,rfl⟩,⟨ia _,ia _,fun k hk=>absurd hk (pw k),fun _=>ia _⟩,fun ⟨c,x⟩ ⟨h1,h2,h3,h4⟩=>?_⟩;dsimp only at h1 h2 h3 h4 ⊢;have main:c<n->c ∉ l->((0:Int)<=(n:Int)/\(n:Int)<=(n:Int)/\(n:Int)<=1099511627776)/\ax 1/\((0:Int)<=(c:Int)/\(c:Int)<((List.replicate ((n:Nat):Int).toNat (0:Rat)).length:Nat))/\((c:Nat):Int).toNat<(List.replicate ((n:Nat):Int).toNat (0:Rat)).length/\(l.length<=9223372036854775807->aco R (K5 l) n (c,x)):=fun hc hm=>⟨⟨by omega,by omega,by omega⟩,by unfold ax;omega,by rw [yq];exact ⟨by omega,by show (c:Int)<((n:Nat):Int);omega⟩,by rw [yq];exact hc,fun _=>body c x hc hm h2 h3 h4⟩
 refine aH (fun h hLL=>?_) fun h=>?_
 ·have hc:c<n:=by omega
  refine aH (fun h5=>⟨idx h5,?_⟩) fun h5=>main hc fun hm=>h5 (by have:=((ac0 inc h3 h4).1 hm).1;omega);have hx:x<l.length:=by omega
  have e1:=afF hx;refine aH (fun h6=>?_) fun h6=>main hc fun hm=>h6 (by have:=((ac0 inc h3 h4).1 hm).2;show (K5 l).getD x 0=(c:Int);omega);have h6:l.getD x 0=c:=by have h6:(K5 l).getD x 0=(c:Int):=h6;omega
  have hm:c∈l:=(ac0 inc h3 h4).2 ⟨hx,h6⟩;have eK:abo (el R) l n (c+1)=abo (el R) l n c:=by rw [aeS,eJ hm]
  refine ⟨by unfold ax;omega,by unfold ax;omega,(c+1,x+1),⟨⟨rfl,rfl,rfl,rfl⟩,⟨rfl,rfl⟩,by show _=aA (abo (el R) l n (c+1)).length _;rw [eK],eK.symm⟩,⟨hc,hx,fun k hk=>?_,fun h7=>?_⟩,by show _-(c+1)<_-c;omega⟩
  ·rcases dz k x with h8 | h8
   ·have:=h3 k h8;show _<c+1;omega
   ·have:k=x:=by have:k<x+1:=hk;omega
    subst this;show _<c+1;omega
  ·have:=inc x (x+1) (Cn x) h7;show c+1<=l.getD (x+1) 0;omega
 ·have e:c=n:=by omega
  subst e;rw [sv];exact (vt [] rfl fun i _=>rfl).symm
theorem afX:aoH (cfg []) afk:=cf afQ bp Tryz.func103 (by kernel_rfl) fun args g r hn hc hg hf=>by
 replace hc:fekernel args=some (g,r,hn):=hc;unfold fekernel at hc;split at hc
 ·obtain ⟨rfl,rfl,rfl⟩:=aN hc;cases aY (afU _ _ _) (afW _ _ _ hg);exact ⟨rfl,by kernel_rfl,_,by assumption⟩
 ·cases hc
def aeE (M:LM):LM:=abo (ab2 M).1 (ab2 M).2 (abY M) (abY M)
theorem ai8 {M:LM} (hg:acu M):aeY (aaf M) (ab2 M).2 (abY M):=by have h:=aca M.length (el M) (abY M);obtain ⟨s,h1,h2,h3⟩:=hg;refine ⟨h.inc,h.lt,by unfold aaf;rw [ab9];exact eM _,fun k hk=>?_,SM.mk (fun i j _ _=>(afy h1 (fun i j=>h2.el i j) (abY M) i j).le h3) BQ1⟩;unfold aaf;rw [na hk,mX];exact eM _
theorem agq {A:LM} {n c:Nat} {F:Nat->Nat->Rat} (hn:A.length=n) (hc:abY A=c) (h:∀i j,i<n->j<c->el A i j=F i j):(ab2 A).2=(rr n F c).2/\∀i j,i<n->j<c->(ab2 A).1 i j=(rr n F c).1 i j:=by unfold ab2;rw [hn,hc];exact aed h c (eM c)
theorem afl {b:Bool} {α:Type} {x y:α} (h:b=true):cond b x y=x:=by rw [h];rfl
noncomputable def LX5:List az:=aeb::afk::ala::afj::ya::LX4
theorem ahn:bd LX5:=⟨ads,afX,alk,afT,uz,afQ⟩
def aah (M:LM) (b:List Rat):LM:=ab6 M (abJ b)
def okS (M:LM) (b:List Rat):Bool:=bif amP M then decide (M.length=b.length) else false
def abL (M:LM) (b:List Rat):Bool:=ajj M.length (afM M) (el M) (fun i=>b.getD i 0)
def aer (M:LM) (b:List Rat):List Rat:=aA (afM M) (ak8 M.length (afM M) (el M) (fun i=>b.getD i 0))
def aj4 (M:LM) (b:List Rat):Prop:=∃s,1<=s/\SM s M/\SL s b/\s*5^(afM M+1)<=BQ
def acU (M:LM) (b:List Rat):List Rat:=bif okS M b then bif abL M b then aer M b else [] else []
def adl (M:LM) (b:List Rat):LM:=bif okS M b then bif abL M b then aeE M else [] else []
def acV (M:LM) (b:List Rat):Int:=bif okS M b then bif abL M b then 0 else 7 else 5
theorem akS {M:LM} {b:List Rat} (hl:M.length=b.length) {i:Nat} (hi:i<M.length):(aah M b).getD i []=M.getD i []++[b.getD i 0]:=by unfold aah ab6 abJ;rw [fW hi,fW (by omega)]
structure ap5 (M:LM) (b:List Rat):Prop where
 len:(aah M b).length=M.length
 abY:abY (aah M b)=afM M+1
 right:amP (aah M b)=true
 el:∀i j,i<M.length->j<afM M+1->AM.el (aah M b) i j=abD (afM M) (AM.el M) (fun i=>b.getD i 0) i j
theorem ajQ {M:LM} {b:List Rat} (hR:amP M=true) (hl:M.length=b.length):ap5 M b:=by
 obtain ⟨m1,m2,m3⟩:=ba hR;have e0:(aah M b).length=M.length:=mX ..;have er:∀i,i<M.length->((aah M b).getD i []).length=afM M+1:=fun i hi=>by rw [akS hl hi,iS,m3 i hi];rfl
 refine ⟨e0,er 0 m1,nM (by omega) (by rw [er 0 m1];omega) fun j hj=>by rw [er j (by omega),er 0 m1],fun i j hi hj=>?_⟩;show ((aah M b).getD i []).getD j 0=_;rw [akS hl hi];unfold abD;by_cases h:j<afM M
 ·rw [eJ h,xT (by rw [m3 i hi];exact h)];rfl
 ·rw [cM h,xU (by rw [m3 i hi];omega),m3 i hi,show j-afM M=0 by omega];rfl
theorem akG {M:LM} {b:List Rat} {s:Nat} (hl:M.length=b.length) (h1:1<=s) (h2:SM s M) (h3:SL s b):SM s (aah M b):=fun i j=>by
 rcases dz i M.length with hi | hi
 ·rw [akS hl hi];rcases dz j (M.getD i []).length with hj | hj
  ·rw [xT hj];exact h2 i j
  ·rw [xU hj]
   cases j-(M.getD i []).length with
   | zero=>exact h3 i
   | succ k=>exact Sq.zero s h1
 ·have e:(aah M b).getD i []=[]:=mZ (by unfold aah ab6;rw [mX];exact hi) [];rw [e];exact Sq.zero s h1
theorem adu {s m:Nat} (h1:1<=s) (h:s*5^m<=BQ):m<=20000000000:=by have h4:=Nat.lt_pow_self (n:=m) (a:=5) (by omega);have h5:1*5^m<=s*5^m:=gU _ h1;unfold BQ at h;omega
theorem alV (n m:Nat) (A:Nat->Nat->Rat) (b:Nat->Rat):(0<(rr n (abD m A b) (m+1)).2.length/\(rr n (abD m A b) (m+1)).2.getD ((rr n (abD m A b) (m+1)).2.length-1) 0=m)↔ajj n m A b=false:=by
 constructor
 ·intro ⟨h1,h2⟩
  cases h:ajj n m A b with
  | false=>rfl
  | true=>have:=adn.1 h _ (Ao (xs:=(rr n (abD m A b) (m+1)).2) (i:=(rr n (abD m A b) (m+1)).2.length-1) (by omega) 0);omega
 ·intro h;rw [alD h,iS,xU (by simp)];exact ⟨by simp,by simp⟩
theorem alb {M:LM} {b:List Rat} (h:okS M b=false):acU M b=[]/\adl M b=[]/\5=acV M b:=by unfold acU adl acV;rw [h];exact ⟨rfl,rfl,rfl⟩
theorem ajT {M:LM} {b:List Rat} (h:okS M b=true) (h2:abL M b=false):acU M b=[]/\adl M b=[]/\7=acV M b:=by unfold acU adl acV;rw [h,h2];exact ⟨rfl,rfl,rfl⟩
theorem akT {M:LM} {b:List Rat} (h:okS M b=true) (h2:abL M b=true):acU M b=aer M b/\adl M b=aeE M/\acV M b=0:=by unfold acU adl acV;rw [h,h2];exact ⟨rfl,rfl,rfl⟩
def feSolve:CF
 | [.k (.list (.list .q)) M,.k (.list .q) b]=>some (some (okS M b=true->aj4 M b),T3 (.k (.list .q) (acU M b)) (.k (.list (.list .q)) (adl M b)) (.k (.int .i64) (acV M b)),[])
 | _=>none
def alF:az:=⟨70,false,feSolve⟩
def alW (M:LM) (b:List Rat):bk:=⟨nU,fun key_=>match key_ with
 | 10=>some (⟨Nat,fun i=>[(4,.own 51 0 5),(7,.k (.int .i64) ((afM M:Nat):Int)),(8,.pt 8 0 2 0 0),(53,.k (.list (.int .i64)) (abp (aah M b))),(54,.k (.int .i64) (((abp (aah M b)).length:Nat):Int)),(55,.k (.int .i64) ((i:Nat):Int))],
 fun i=>[(8,.box 76 (.agg (.cons (.k (.list (.list .q)) (aaf (aah M b))) (.cons (.k (.list (.int .i64)) (abp (aah M b))) .nil)))),(51,.arr 45 .q (aA (afM M) (acN (ab2 (aah M b)).2 (fun k=>(ab2 (aah M b)).1 k (afM M)) (fun _=>0) i)))],fun _ i=>i<=(ab2 (aah M b)).2.length,fun i=>(ab2 (aah M b)).2.length-i⟩) | _=>none,nR,nU⟩
def ajz (M:LM) (b:List Rat)  : Prop:=
 let t1:=abp (aah M b);
 let t2:=ab2 (aah M b);
 let t3:=ab6 M (abJ b);
 ∃(x0:Nat),(((↑(M.getD (Int.toNat (0:Int)) []).length:Int)=(↑(afM M):Int)/\(bif amP t3 then abp t3 else [])=abp (aah M b)/\(↑(bif amP t3
 then abp t3 else []).length:Int)=(↑t1.length:Int)/\(0:Int)=(↑x0:Int))/\(bz (amP t3) (aaf t3)=aaf (aah M b)/\(bif amP t3 then abp
 t3 else [])=abp (aah M b))/\List.replicate (↑(M.getD (Int.toNat (0:Int)) []).length:Int).toNat (0:Rat)=aA (afM M) (acN t2.snd (fun (k:Nat)=>t2.fst
 k (afM M)) (fun (x:Nat)=>(0:Rat)) x0))/\x0<=t2.snd.length/\∀(x:Nat),
 let u1:=acN t2.snd (fun (k:Nat)=>t2.fst k (afM M)) (fun (x:Nat)=>(0:Rat)) x;x<=t2.snd.length->bif decide ((↑x:Int)<↑t1.length) then ((0 :
 Int)<=(↑x:Int)/\(↑x:Int)<↑t1.length)/\(0<=(↑x:Int)/\(↑x:Int)<↑(aaf (aah M b)).length)/\(0<=(↑(afM M):Int) /\
 (↑(afM M):Int)<(↑((aaf (aah M b)).getD (↑x:Int).toNat []).length:Int))/\((0:Int)<=t1.getD (↑x:Int).toNat 0/\t1.getD (↑x:Int).toNat (0 :
 Int)<(↑(aA (afM M) u1).length:Int))/\(t1.getD (↑x:Int).toNat 0).toNat<(aA (afM M) u1).length/\ax ((↑x:Int)+1)/\∃(x':Nat),
 (((↑(afM M):Int)=(↑(afM M):Int)/\abp (aah M b)=abp (aah M b)/\(↑t1.length:Int)=↑t1.length/\(↑x:Int)+1=↑x') /\
 (aaf (aah M b)=aaf (aah M b)/\abp (aah M b)=abp (aah M b))/\(aA (afM M) u1).set (t1.getD (↑x:Int).toNat 0).toNat (((aaf (aah M
 b)).getD (↑x:Int).toNat []).getD (↑(afM M):Int).toNat 0)=aA (afM M) (acN t2.snd (fun (k:Nat)=>t2.fst k (afM M)) (fun (x:Nat)=>(0:Rat))
 x'))/\x'<=t2.snd.length/\t2.snd.length-x'<t2.snd.length-x else (abp (aah M b)=K5 (R2 t1)/\aeY (aaf (aah M b)) (R2 t1) (afM M)/\afM M <=
 aB)/\aA (afM M) u1=acU M b/\abo (el (aaf (aah M b))) (R2 t1) (afM M) (afM M)=adl M b/\(0:Int)=acV M b
def akU (M:LM) (b:List Rat):Prop:=
 let t1:=(↑(M.getD (Int.toNat (0:Int)) []).length:Int);
 let t2:=ab6 M (abJ b);
 bif !amP M then acU M b=[]/\adl M b=[]/\(5:Int)=acV M b else M.length<=aB->b.length<=aB->bif !decide ((↑M.length:Int)=↑b.length)
 then acU M b=[]/\adl M b=[]/\(5:Int)=acV M b else ((0:Int)<=(0:Int)/\(0:Int)<(↑M.length:Int))/\((M.getD (Int.toNat (0:Int)) []).length <=
 aB->(M.length<=(abJ b).length/\(∀(i:Nat),i<M.length->(0:Nat)<((abJ b).getD i []).length)/\∀(i:Nat),i<M.length->(M.getD i []).length+((abJ
 b).getD i []).length<=aB)/\(amP t2=true->acu t2)/\((bif amP t2 then abp t2 else []).length<=(9223372036854775807:Nat)->bif decide ((0:Int) <
 (↑(bif amP t2 then abp t2 else []).length:Int)) then ax ((↑(bif amP t2 then abp t2 else []).length:Int)-(1:Int))/\(0<=(↑(bif amP t2
 then abp t2 else []).length:Int)-(1:Int)/\(↑(bif amP t2 then abp t2 else []).length:Int)-(1:Int)<(↑(bif amP t2 then abp t2 else
 []).length:Int))/\bif decide ((bif amP t2 then abp t2 else []).getD ((↑(bif amP t2 then abp t2 else []).length:Int)-(1:Int)).toNat 0=t1)
 then acU M b=[]/\adl M b=[]/\(7:Int)=acV M b else ((0:Int)<=t1/\t1<=t1/\t1<=(1099511627776:Int))/\((bif amP t2 then abp t2 else
 []).length<=(9223372036854775807:Nat)->ajz M b) else ((0:Int)<=t1/\t1<=t1/\t1<=(1099511627776:Int))/\((bif amP t2 then abp t2 else []).length <=
 (9223372036854775807:Nat)->ajz M b)))
theorem alG (M:LM) (b:List Rat):aw LX5 [] (alW M b) Tryz.f70 (T3 (.k (.list .q) (acU M b)) (.k (.list (.list .q)) (adl M b)) (.k (.int .i64) (acV M b))) [.k (.list (.list .q)) M,.k (.list .q) b]=akU M b:=by kernel_rfl
theorem alH (M:LM) (b:List Rat) (hg:okS M b=true->aj4 M b):akU M b:=by
 unfold akU;dsimp only
 cases hR:amP M with
 | false=>exact alb (by unfold okS;rw [hR];rfl)
 | true=>
  intro hL1 n5;refine dP (fun h=>alb (by unfold okS;rw [hR,tS (by omega)];rfl)) fun h=>?_;have hl:M.length=b.length:=by omega
  have ok:okS M b=true:=by unfold okS;rw [hR,xX hl];rfl
  obtain ⟨s,s1,s2,s3,s4⟩:=hg ok;have hA:=ajQ hR hl;obtain ⟨m1,m2,m3⟩:=ba hR;have uI:acu (aah M b):=⟨s,s1,akG hl s1 s2 s3,by have:=hA.abY;show s*5^abY (aah M b)<=BQ;rw [this];exact s4⟩
  have hmL:=adu s1 s4;have E1:(bif amP (ab6 M (abJ b)) then abp (ab6 M (abJ b)) else [])=abp (aah M b):=afl hA.right;have E2:bz (amP (ab6 M (abJ b))) (aaf (ab6 M (abJ b)))=aaf (aah M b):=afl hA.right;have hK:=ai8 uI;obtain ⟨r1,r2⟩:=agq hA.len hA.abY hA.el;have hln:=hK.len;have yS:(ab2 (aah M b)).2.length<=M.length:=by rw [r1];exact acG _ _ _
  have key:=alV M.length (afM M) (el M) (fun i=>b.getD i 0);rw [<-r1] at key;have eO:(abp (aah M b)).length=(ab2 (aah M b)).2.length:=adq _;have eT:R2 (abp (aah M b))=(ab2 (aah M b)).2:=ai4 _;have uN:(ab2 (aah M b)).2.length<=20000000000:=by
   rcases nP (ab2 (aah M b)).2.length with h0 | h0
   ·omega
   ·have:=ahm hK.inc _ (show (ab2 (aah M b)).2.length-1<(ab2 (aah M b)).2.length by omega);have h5:=hK.lt _ (show (ab2 (aah M b)).2.length-1<(ab2 (aah M b)).2.length by omega);rw [hA.abY] at h5;omega
  have body:abL M b=true->ajz M b:=fun hS=>by
   have aU:∀k,k<(ab2 (aah M b)).2.length->(ab2 (aah M b)).2.getD k 0<afM M:=fun k hk=>by have h6:=adn.1 hS;rw [<-r1] at h6;exact h6 _ (Ao hk 0)
   obtain ⟨v1,v2⟩:=akR hS;obtain ⟨x1,x2,x3⟩:=akT ok hS;unfold ajz;dsimp only;rw [E1,E2,eO];refine ⟨0,⟨⟨rfl,rfl,rfl,rfl⟩,⟨rfl,rfl⟩,iO _ _⟩,ia _,fun i hi=>aH (fun h=>?_) fun h=>?_⟩
   ·have cw:i<(ab2 (aah M b)).2.length:=by omega
    have e1:(abp (aah M b)).getD i 0=_:=afF cw;have e3:((abp (aah M b)).getD i 0).toNat=(ab2 (aah M b)).2.getD i 0:=by omega
    have h7:=aU i cw;have h8:=ahm hK.inc i cw;have h9:=hK.row i cw;rw [hA.abY] at h9;refine ⟨idx h,⟨by omega,by omega⟩,⟨by omega,by show (afM M:Int)<((((aaf (aah M b)).getD i []).length:Nat):Int);omega⟩,⟨by show (0:Int)<=(abp (aah M b)).getD i 0;omega,by rw [mX];show (abp (aah M b)).getD i 0<(afM M:Int);omega⟩,by rw [mX];show ((abp (aah M b)).getD i 0).toNat<afM M;omega,by unfold ax;omega,i+1,⟨⟨rfl,rfl,rfl,rfl⟩,⟨rfl,rfl⟩,?_⟩,cw,by omega⟩;show (aA (afM M) _).set ((abp (aah M b)).getD i 0).toNat (el (aaf (aah M b)) i (afM M))=_;rw [e3,show el (aaf (aah M b)) i (afM M)=(ab2 (aah M b)).1 i (afM M) from Ny cw (by rw [hA.abY];omega)];exact mY h7
   ·have e:i=(ab2 (aah M b)).2.length:=by omega
    subst e;rw [eT,x1,x2,x3];refine ⟨⟨rfl,⟨hK.inc,aU,hK.len,fun k hk=>by have:=hK.row k hk;rw [hA.abY] at this;omega,hK.sm⟩,by unfold aB;omega⟩,bE fun t ht=>?_,?_,rfl⟩
    ·rw [aiw (fun i j hij hj e=>by have:=hK.inc i j hij hj;omega)];unfold ak8 akD;rw [<-r1];by_cases h:(ab2 (aah M b)).2.idxOf t<(ab2 (aah M b)).2.length
     ·rw [eJ h,eJ h,r2 _ _ (by omega) (by omega)]
     ·rw [cM h,cM h]
    ·unfold aeE;rw [show (ab2 M).2=(ab2 (aah M b)).2 from (r1.trans v1).symm];exact agn fun i j hi hj=>by show el (aaf (aah M b)) i j=(rr M.length (el M) (afM M)).1 i j;rw [show el (aaf (aah M b)) i j=(ab2 (aah M b)).1 i j from Ny hi (by rw [hA.abY];have:j<afM M:=hj;omega),r2 _ _ (by omega) (by have:j<afM M:=hj;omega),v2 _ _ (by omega) hj]
  rw [E1];refine ⟨⟨by omega,by omega⟩,fun hLc=>⟨⟨by unfold abJ;rw [mX];omega,fun i hi=>by unfold abJ;rw [fW (by omega)];exact Nat.one_pos,fun i hi=>by unfold abJ;rw [fW (by omega),m3 i hi];show afM M+1<=aB;unfold aB;omega⟩,fun _=>uI,fun hLL=>?_⟩⟩;have amF:abL M b=true->((0:Int)<=(((M.getD (Int.toNat 0) []).length:Nat):Int)/\(((M.getD (Int.toNat 0) []).length:Nat):Int)<=(((M.getD (Int.toNat 0) []).length:Nat):Int)/\(((M.getD (Int.toNat 0) []).length:Nat):Int)<=1099511627776)/\((abp (aah M b)).length<=9223372036854775807->ajz M b):=fun hS=>⟨⟨by omega,by omega,by show ((afM M:Nat):Int)<=_;omega⟩,fun _=>body hS⟩
  have yes:¬(0<(ab2 (aah M b)).2.length/\(ab2 (aah M b)).2.getD ((ab2 (aah M b)).2.length-1) 0=afM M)->abL M b=true:=fun h=>by
   cases h2:abL M b with
   | true=>rfl
   | false=>exact absurd (key.2 h2) h
  refine aH (fun h1=>?_) fun h1=>amF (yes fun h2=>h1 (by omega));have hp:0<(ab2 (aah M b)).2.length:=by omega
  have e1:(abp (aah M b)).getD ((ab2 (aah M b)).2.length-1) 0=_:=afF (show (ab2 (aah M b)).2.length-1<_ by omega);have e2:(((abp (aah M b)).length:Nat)-1:Int).toNat=(ab2 (aah M b)).2.length-1:=by omega
  rw [e2];refine ⟨by unfold ax;omega,⟨by omega,by omega⟩,aH (fun h3=>?_) fun h3=>amF (yes fun h2=>h3 ?_)⟩
  ·refine ajT ok (key.1 ⟨hp,?_⟩);have h3:(abp (aah M b)).getD ((ab2 (aah M b)).2.length-1) 0=((afM M:Nat):Int):=h3;omega
  ·show (abp (aah M b)).getD ((ab2 (aah M b)).2.length-1) 0=((afM M:Nat):Int)
   omega
theorem akE:aoH (cfg []) alF:=cf ahn bp Tryz.func70 (by kernel_rfl) fun args g r hn hc hg hf=>by
 replace hc:feSolve args=some (g,r,hn):=hc;unfold feSolve at hc;split at hc
 ·obtain ⟨rfl,rfl,rfl⟩:=aN hc;cases aY (alG _ _) (alH _ _ hg);exact ⟨rfl,by kernel_rfl,_,by assumption⟩
 ·cases hc
theorem amK {n m:Nat} {F:Nat->Nat->Rat} {t:Nat} (ht:t<(acR (rr n F m).2 m).length):Ker n m F (acm (rr n F m).1 (rr n F m).2 ((acR (rr n F m).2 m).getD t 0)):=by obtain ⟨h1,h2⟩:=ahQ (Ao ht 0);exact (aeM m).1 ((aca n F m).col h1 fun k hk e=>h2 (by rw [<-e];exact Ao hk 0))
theorem ap8 {f:Nat->Rat}:∀{n:Nat},(∀i,i<n->0<=f i)->0<=sumN f n
 | 0,_=>Rat.le_refl
 | n+1,h=>by have h1:=ap8 (n:=n) fun i hi=>h i (by omega);have h2:=h n (by omega);show 0<=sumN f n+f n;grind
theorem ap6 {f:Nat->Rat}:∀{n:Nat},(∀i,i<n->0<=f i)->sumN f n=0->∀i,i<n->f i=0
 | 0,_,_,i,hi=>absurd hi (pw i)
 | n+1,h,e,i,hi=>by
  have h1:=ap8 (n:=n) fun i hi=>h i (by omega);have h2:=h n (by omega);have e:sumN f n+f n=0:=e;rcases dz i n with n0 | n0
  ·exact ap6 (fun i hi=>h i (by omega)) (by grind) i n0
  ·rw [show i=n by omega];grind
theorem aq7 (a:Rat):0<=a*a:=by
 rcases Rat.le_total (a:=0) (b:=a) with h | h
 ·exact NZ h h
 ·have:0 <= -a * -a:=NZ (by grind) (by grind);grind
theorem ar9 {a:Rat} (h:a*a=0):a=0:=by rcases Lx.1 h with h | h <;> exact h
theorem aqT (F:Nat->Nat->Rat) (c v:Nat->Rat) (n m:Nat):sumN (fun i=>c i*sumN (fun j=>F i j*v j) m) n=sumN (fun j=>v j*sumN (fun i=>F i j*c i) n) m:=by have e1:sumN (fun i=>c i*sumN (fun j=>F i j*v j) m) n=sumN (fun i=>sumN (fun j=>c i*(F i j*v j)) m) n:=uv fun i _=>(abC _ _ m).symm;rw [e1,akN];exact uv fun j _=>(uv fun i _=>by grind).trans (abC (v j) (fun i=>F i j*c i) n)
def ab5 (w:Nat) (X:Nat->Nat->Rat):Nat->Nat->Rat:=abD w X fun _=>1
theorem aqv {w:Nat} {X:Nat->Nat->Rat} {i j:Nat} (h:j<w):ab5 w X i j=X i j:=eJ h
theorem arn {w:Nat} {X:Nat->Nat->Rat} {i:Nat}:ab5 w X i w=1:=cM (xZ w)
def rdF (w:Nat) (r:Rat) (j k:Nat):Rat:=if j=k/\j<w then r else 0
def akl (n w:Nat) (X:Nat->Nat->Rat) (r:Rat) (j k:Nat):Rat:=rdF w r j k+sumN (fun i=>ab5 w X i j*ab5 w X i k) n
def ao3 (n w:Nat) (X:Nat->Nat->Rat) (y:Nat->Rat) (j:Nat):Rat:=sumN (fun i=>ab5 w X i j*y i) n
def LB:Nat:=40000000
structure Trn (x:List (List Rat)) (y:List Rat):Prop where
 right:amP x=true
 n16:x.length<=16
 w3:afM x<=3
 len:x.length=y.length
 sx:SM 256 x
 sy:SL 256 y
def yF (y:List Rat) (i:Nat):Rat:=y.getD i 0
structure Lin (x:List (List Rat)) (W:List Rat) (B:Rat):Prop where
 len:W.length=afM x
 sW:SL LB W
 sB:Sq LB B
def aM (x:List (List Rat)) (r:Rat):List (List Rat):=aG (afM x+1) (afM x+1) (akl x.length (afM x) (el x) r)
def rhL (x:List (List Rat)) (y:List Rat):List Rat:=aA (afM x+1) (ao3 x.length (afM x) (el x) (yF y))
def aoK (x:List (List Rat)) (y:List Rat) (r:Rat):Bool:=bif abL (aM x r) (rhL x y) then decide ((aeE (aM x r)).length=0) else false
def aga (x:List (List Rat)) (y:List Rat) (r:Rat):List Rat:=bif decide (r.num<0) then [] else bif aoK x y r then (aer (aM x r) (rhL x y)).take (afM x) else []
def aci (x:List (List Rat)) (y:List Rat) (r:Rat):Rat:=bif decide (r.num<0) then 0 else bif aoK x y r then (aer (aM x r) (rhL x y)).getD (afM x) 0 else 0
def apq (x:List (List Rat)) (y:List Rat) (r:Rat):Int:=bif decide (r.num<0) then 1 else bif aoK x y r then 0 else 9
def apg (i w:Nat) (X:Nat->Nat->Rat) (r:Rat) (j k a b:Nat):Rat:=akl (if a<j\/(a=j/\b<k) then i+1 else i) w X r a b
theorem Sq.one {k:Nat} (h:1<=k):Sq k 1:=Sq.int (n:=1) (Sm.one.le h) h
theorem avQ {n i:Nat} (hi:i<n):(bh n n).getD i 0=i+1:=by unfold bh;rw [fW hi,eJ hi]
theorem asV {n m i:Nat} {F:Nat->Nat->Rat} (hi:i<n):(bD n m F).getD (i+1) []=aA m (F i):=by unfold bD;rw [CR,na hi]
theorem apI {n m:Nat} {F G:Nat->Nat->Rat} (h:∀a b,a<n->b<m->F a b=G a b):bD n m F=bD n m G:=by unfold bD;rw [at2 h]
theorem asW {n m i j:Nat} {F:Nat->Nat->Rat} (hi:i<n) (hj:j<m) (v:Rat):(bD n m F).set (i+1) ((aA m (F i)).set j v)=bD n m fun a b=>if a=i/\b=j then v else F a b:=by
 unfold bD aG;rw [List.set_cons_succ,mY hj,mY hi];congr 1;refine bE fun a _=>?_
 by_cases e:a=i
 ·rw [eJ e];refine bE fun b _=>?_;by_cases e2:b=j
  ·exact (eJ e2).trans (eJ (show a=i/\b=j from ⟨e,e2⟩)).symm
  ·exact (cM e2).trans ((cM (show ¬(a=i/\b=j) from fun h=>e2 h.2)).trans (by rw [e])).symm
 ·rw [cM e];exact bE fun b _=>(cM (show ¬(a=i/\b=j) from fun h=>e h.1)).symm
theorem asA (n w:Nat) (X:Nat->Nat->Rat) (r:Rat) (a b:Nat):akl n w X r a b+ab5 w X n a*ab5 w X n b=akl (n+1) w X r a b:=Rat.add_assoc ..
theorem asB (i w:Nat) (X:Nat->Nat->Rat) (r:Rat) (a b:Nat):apg i w X r 0 0 a b=akl i w X r a b:=by unfold apg;rw [cM (by omega)]
theorem as9 {i w:Nat} {X:Nat->Nat->Rat} {r:Rat} {j m a b:Nat} (hb:b<m):apg i w X r j m a b=apg i w X r (j+1) 0 a b:=by
 unfold apg;by_cases h:a<j\/(a=j/\b<m)
 ·rw [eJ h,eJ (by omega)]
 ·rw [cM h,cM (by omega)]
theorem ata {i w:Nat} {X:Nat->Nat->Rat} {r:Rat} {m a b:Nat} (ha:a<m):apg i w X r m 0 a b=akl (i+1) w X r a b:=by unfold apg;rw [eJ (.inl ha)]
theorem asC (i w:Nat) (X:Nat->Nat->Rat) (r:Rat) (j k a b:Nat):(if a=j/\b=k then apg i w X r j k j k+ab5 w X i j*ab5 w X i k else apg i w X r j k a b)=apg i w X r j (k+1) a b:=by
 by_cases e:a=j/\b=k
 ·obtain ⟨rfl,rfl⟩:=e;rw [eJ ⟨rfl,rfl⟩];unfold apg;rw [cM (by omega),eJ (by omega)];exact asA ..
 ·rw [cM e];unfold apg;by_cases h:a<j\/(a=j/\b<k)
  ·rw [eJ h,eJ (by omega)]
  ·rw [cM h,cM (by omega)]
section
variable {x:List (List Rat)} {y:List Rat} {r:Rat} {W:List Rat} {B:Rat}
theorem Trn.facts (h:Trn x y):0<x.length/\afM x≠0/\∀i,i<x.length->(x.getD i []).length=afM x:=ba h.right
theorem Trn.Y (h:Trn x y) (i:Nat):Sq 256 (yF y i):=h.sy i
theorem Trn.ful (h:Trn x y) (w i j:Nat):Sq 256 (ab5 w (el x) i j):=by
 unfold ab5 abD;split
 ·exact h.sx i j
 ·exact Sq.one (by omega)
theorem avR (hr:Sq 256 r) (w a b:Nat):Sq 256 (rdF w r a b):=by
 unfold rdF;split
 ·exact hr
 ·exact Sq.zero _ (by omega)
theorem Trn.nor (h:Trn x y) (hr:Sq 256 r) {i:Nat} (hi:i<=16) (w a b:Nat):Sq 9000 (akl i w (el x) r a b):=by unfold akl;exact ((avR hr w a b).add (Sq.sumN fun t _=>(h.ful w t a).mul (h.ful w t b))).le (by have:=iR (256+256+1) hi;omega)
theorem Trn.rhs (h:Trn x y) {i:Nat} (hi:i<=16) (w a:Nat):Sq 9000 (ao3 i w (el x) (yF y) a):=by unfold ao3;exact (Sq.sumN fun t _=>(h.ful w t a).mul (h.Y t)).le (by have:=iR (256+256+1) hi;omega)
theorem aqE:(aM x r).length=afM x+1:=ab9 ..
theorem apy:afM (aM x r)=afM x+1:=by unfold afM aM;rw [na (by omega),mX];rfl
theorem atI:(rhL x y).length=afM x+1:=mX ..
theorem atb:amP (aM x r)=true:=Lh (by omega) (by omega) _
theorem atJ:okS (aM x r) (rhL x y)=true:=by unfold okS;rw [atb,aqE,atI];exact xX rfl
theorem Trn.apc (h:Trn x y) (hr:Sq 256 r):aj4 (aM x r) (rhL x y):=by refine ⟨9000,by omega,SM.mk (fun i j _ _=>h.nor hr h.n16 _ i j) (by omega),SL.mk (fun i _=>h.rhs h.n16 _ i) (by omega),?_⟩;rw [apy];exact jW (iR 9000 (lN (n:=5) (by omega) (show afM x+1+1<=5 by have:=h.w3;omega))) (by decide)
theorem arJ (M:List (List Rat)) (b:List Rat):(aer M b).length=afM M:=mX ..
end
end Go.Proofs.YtdgmgfaphpkocaaGreatDoor.AM
