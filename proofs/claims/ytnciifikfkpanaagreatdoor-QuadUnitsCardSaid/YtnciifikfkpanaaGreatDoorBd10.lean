/- The base of the proof: contracts of functions, the engine that shows them, and mathematics. -/
import Derived.Test.YtnciifikfkpanaaGreatDoorBd9
set_option maxRecDepth 100000
set_option linter.unusedVariables false
set_option linter.unusedSimpArgs false
set_option maxHeartbeats 1000000
namespace Go.Proofs.YtnciifikfkpanaaGreatDoor.AM
open Go.RowKit
def pvN (M:LM) (c t:Nat):Nat:=aA5 (el M) c t (M.length-t)
def abu (M:LM) (c t:Nat):Int:=bif decide (pvN M c t<M.length) then ((pvN M c t:Nat):Int) else -1
theorem ahI {M:LM} {c t:Nat} (ht:t<M.length) (h:el M t c=0):pvN M c t=pvN M c (t+1):=by unfold pvN;rw[show M.length-t=(M.length-(t+1))+1 by omega,aA5,fi h]
theorem ai0 {M:LM} {c t:Nat} (ht:t<M.length) (h:el M t c≠0):pvN M c t=t:=by unfold pvN;rw[show M.length-t=(M.length-(t+1))+1 by omega,aA5,dw h]
theorem aix {M:LM} {c t:Nat} (ht:M.length<=t):pvN M c t=t:=by unfold pvN;rw[show M.length-t=0 by omega,aA5]
theorem aeT {M:LM} {c t:Nat} (h:¬pvN M c t<M.length):abu M c t = -1:=by unfold abu;rw[nS h];rfl
theorem aea {M:LM} {c t:Nat} (h:pvN M c t<M.length):abu M c t=((pvN M c t:Nat):Int):=by unfold abu;rw[tC h];rfl
def L5 (M:LM) (c:Nat):(Nat->Nat->Rat)×List Nat:=rr M.length (el M) c
def tpR (M:LM) (c:Nat):Nat:=(L5 M c).2.length
def pvR (M:LM) (c:Nat):Nat:=aA5 (L5 M c).1 c (tpR M c) (M.length-tpR M c)
def swR (M:LM) (c:Nat):Nat->Nat->Rat:=dk (L5 M c).1 (tpR M c) (pvR M c)
def kR (M:LM) (c:Nat):Rat:=1/swR M c (tpR M c) c
def scT (M:LM) (c j:Nat):Nat->Nat->Rat:=λi j'=>if i=tpR M c/\j'<j then swR M c i j'*kR M c else swR M c i j'
def scR (M:LM) (c:Nat):Nat->Nat->Rat:=wa (swR M c) (tpR M c) (kR M c)
def elT (M:LM) (c t:Nat):Nat->Nat->Rat:=λi j=>if i≠tpR M c/\i<t then scR M c i j-scR M c i c*scR M c (tpR M c) j else scR M c i j
theorem aiy {M:LM} {c:Nat} (h:pvR M c<M.length):L5 M (c+1)=(abA (scR M c) (tpR M c) c,(L5 M c).2++[c]):=by show abv M.length (L5 M c) c=_;unfold abv;exact fi h
theorem ahh {M:LM} {c:Nat} (h:¬pvR M c<M.length):L5 M (c+1)=L5 M c:=by show abv M.length (L5 M c) c=_;unfold abv;exact dw h
def acu (M:LM):Prop:=∃s,1<=s/\SM s M/\s*5^al M<=BQ
theorem aeC {F G:Nat->Nat->Rat} {c:Nat}:∀{k t:Nat},(∀i,t<=i->i<t+k->F i c=G i c)->aA5 F c t k=aA5 G c t k
 | 0,_,_=>rfl
 | k+1,t,h=>by unfold aA5;rw[h t (bX t) (by omega),aeC λi h1 h2=>h i (by omega) (by omega)]
theorem ahi {n m c t:Nat} (F:Nat->Nat->Rat) (hc:c<m):pvN (aG n m F) c t=aA5 F c t (n-t):=by unfold pvN;rw[ab9];exact aeC λi h1 h2=>Ny (by omega) hc
theorem Holds.sm {n m s:Nat} {out:List Nat} {ai:LM} {F:Nat->Nat->Rat} (h:Holds n m out ai F) (hs:∀i j,Sq s (F i j)) (h1:1<=s):SM s (out.map λp=>ai.getD p []):=by rw[h.rows];exact SM.mk (λi j _ _=>hs i j) h1
theorem BQ1:1<=BQ:=by unfold BQ;omega
theorem ahj {M:LM} (h:acu M) {c:Nat} (hc:c<al M):∃t,1<=t/\5*t<=BQ/\∀i j,Sq t ((L5 M c).1 i j):=by obtain⟨s,h1,h2,h3⟩:=h;refine⟨s*5^c,At h1 (lN (by omega)),?_,afy h1 (λi j=>h2.el i j) c⟩;have h4:s*5^(c+1)<=s*5^al M:=eJ s (iS (by omega) hc);rw[jV,<-ky] at h4;omega
structure akW (M:LM) (c:Nat):Prop where
 sw:∀i j,Sq BQ (swR M c i j)
 ne:swR M c (tpR M c) c≠0
 k:Sq BQ (kR M c)
 sc:∀j i j',Sq BQ (scT M c j i j')
 el:∀t i j,Sq BQ (elT M c t i j)
 pr:∀i j,i≠tpR M c->Sq BQ (scR M c i c*scR M c (tpR M c) j)
theorem ahk (M:LM) (c:Nat):tpR M c<=M.length:=acG _ _ _
theorem ai1 (M:LM) (c:Nat):tpR M c<=pvR M c:=(acn _ _ _ _).1
theorem akX {M:LM} (h:acu M) {c:Nat} (hc:c<al M) (hp:pvR M c<M.length):akW M c:=by
 obtain⟨t,t1,t2,hs⟩:=ahj h hc;have hsw:∀i j,Sq t (swR M c i j):=λi j=>by
  unfold swR dk;split
  ·exact hs _ _
  ·split
   ·exact hs _ _
   ·exact hs _ _
 have ay:swR M c (tpR M c) c≠0:=by unfold swR dk;rw[fi rfl];exact acx (show pvR M c<tpR M c+(M.length-tpR M c) by have:=ahk M c;omega)
 have hk:Sq t (kR M c):=by unfold kR;rw[Gy,Gb];exact(hsw _ _).inv ay
 have hsc:∀i j,Sq (2*t) (scR M c i j):=λi j=>by
  unfold scR wa;split
  ·exact((hsw i j).mul hk).le (by omega)
  ·exact(hsw i j).le (by omega)
 have agd:∀i j,i≠tpR M c->Sq t (scR M c i j):=λi j hi=>by unfold scR wa;rw[dw hi];exact hsw i j
 have Y9:∀i j,i≠tpR M c->Sq (3*t) (scR M c i c*scR M c (tpR M c) j):=λi j hi=>((agd i c hi).mul (hsc _ j)).le (by omega);refine⟨λi j=>(hsw i j).le (by omega),ay,hk.le (by omega),λj i j'=>?_,λt' i j=>?_,λi j hi=>(Y9 i j hi).le (by omega)⟩
 ·unfold scT;split
  ·exact((hsw i j').mul hk).le (by omega)
  ·exact(hsw i j').le (by omega)
 ·unfold elT;split
  ·rename_i hi;exact((agd i j hi.1).sub (Y9 i j hi.1)).le (by omega)
  ·exact(hsc i j).le (by omega)
theorem aiz {b:Bool} {M:LM} (h:b=true):bz b M=M:=by rw[h];rfl
theorem idh {n m i:Nat} {out:List Nat} {ai:LM} {F:Nat->Nat->Rat} (h:Holds n m out ai F) (hi:i<n):((0:Int)<=(i:Int)/\(i:Int)<((out.length:Nat):Int))/\i<out.length/\out.getD i 0<ai.length:=by rw[h.len];exact⟨by omega,hi,h.lt i hi⟩
theorem idc {n m i j:Nat} {out:List Nat} {ai:LM} {F:Nat->Nat->Rat} (h:Holds n m out ai F) (hi:i<n) (hj:j<m):(out.getD i 0<ai.length/\(0:Int)<=(j:Int)/\(j:Int)<(((ai.getD (out.getD i 0) []).length:Nat):Int))/\out.getD i 0<ai.length/\j<(ai.getD (out.getD i 0) []).length:=by rw[h.rowLen hi];exact⟨⟨h.lt i hi,by omega,by omega⟩,h.lt i hi,hj⟩
noncomputable def LX1:List az:=Nj::xM::Cb::Wk::aa5::[]
theorem aeN:bd LX1:=⟨J0,pJ,tA,Qx,V5,trivial⟩
def a5t:CF
 | [.k (.list (.list .q)) M,.k (.int .i64) ((t:Nat):Int),.k (.int .i64) ((c:Nat):Int)]=>some (some (t<=M.length/\(∀i,i<M.length->c<(M.getD i []).length)/\SM BQ M),.k (.int .i64) (abu M c t),[])
 | _=>none
def agO:az:=⟨165,false,a5t⟩
def aiB (M:LM) (t c:Nat):bk:=⟨nU,λkey_=>match key_ with
 | 2=>some (⟨Nat,λi=>[(0,.k (.list (.list .q)) M),(2,.k (.int .i64) ((c:Nat):Int)),(6,.k (.int .i64) (0:Int)),(7,.k (.int .i64) ((i:Nat):Int))],
 λi=>[],λ_ i=>i<=M.length/\t<=i/\pvN M c t=pvN M c i,λi=>M.length-i⟩) | _=>none,nR,nU⟩
def agP (M:LM) (t c:Nat):Prop:=∃(x0:Nat),(M=M/\(c:Int)=↑c/\(0:Int)=(0:Int)/\(t:Int)=↑x0)/\(x0<=M.length/\t<=x0/\pvN M c t=pvN M c x0)/\∀(x:Nat),x <=
 M.length/\t<=x/\pvN M c t=pvN M c x->M.length<=aB->bif decide ((x:Int)<↑M.length) then (0<=(x:Int)/\(x:Int)<↑M.length) /\
 (0<=(c:Int)/\(c:Int)<↑(M.getD (x:Int).toNat []).length)/\Sq BQ ((M.getD (x:Int).toNat []).getD (c:Int).toNat 0)/\bif !decide
 (((M.getD (x:Int).toNat []).getD (c:Int).toNat 0).num.sign=0) then (x:Int)=abu M c t else ax ((x:Int)+1)/\∃(x':Nat),(M =
 M/\(c:Int)=↑c/\(0:Int)=(0:Int)/\(x:Int)+1=↑x')/\(x'<=M.length/\t<=x'/\pvN M c t=pvN M c x')/\M.length-x'<M.length
 - x else (-1:Int)=abu M c t
theorem ahJ (M:LM) (t c:Nat):aw LX1 [] (aiB M t c) Tryz.f165 (.k (.int .i64) (abu M c t)) [.k (.list (.list .q)) M,.k (.int .i64) ((t:Nat):Int),.k (.int .i64) ((c:Nat):Int)]=agP M t c:=by kernel_rfl
theorem ahL (M:LM) (t c:Nat) (hg:t<=M.length/\(∀i,i<M.length->c<(M.getD i []).length)/\SM BQ M):agP M t c:=by
 obtain⟨ht,hk,hs⟩:=hg;unfold agP;refine⟨t,⟨rfl,rfl,rfl,rfl⟩,⟨ht,bX t,rfl⟩,λi ⟨hi,h1,h2⟩ hL=>aH (λh=>?_) λh=>?_⟩
 ·have cw:i<M.length:=by omega
  refine⟨idx h,⟨by omega,Int.ofNat_lt.2 (hk i cw)⟩,hs i c,dP (λh4=>?_) λh4=>⟨nQ cw hL,i+1,⟨rfl,rfl,rfl,rfl⟩,⟨by omega,by omega,h2.trans (ahI cw (sign_zero.1 h4))⟩,by omega⟩⟩;have e:pvN M c t=i:=h2.trans (ai0 cw λh0=>h4 (sign_zero.2 h0));rw[aea (by omega),e]
 ·rw[aeT (by rw[h2,aix (by omega)];omega)]
theorem afe:ah (cfg []) agO:=cf aeN bp Tryz.func165 λa _ _ _ hc hg hf=>by change a5t a=_ at hc;unfold a5t at hc;split at hc<;>cases hc;cases aY (ahJ _ _ _) (ahL _ _ _ hg);exact⟨rfl,by kernel_rfl,_,by assumption⟩
def a5u:List AV->Ob->Option (Option Prop×AV×Ob)
 | [.own 1000000 0 5,.k (.list .q) ys,.k .q k],.arr 40 .q xs=>some (some (xs.length=ys.length/\SL BQ xs/\SL BQ ys/\Sq BQ k/\∀j,Sq BQ (k*ys.getD j 0)),.eX .nil,.arr 40 .q (aA xs.length λj=>xs.getD j 0-k*ys.getD j 0))
 | _,_=>none
def agQ:lE:=⟨166,0,a5u⟩
def aiC (xs ys:List Rat) (k:Rat):bk:=⟨λkey_=>match key_ with | 6=>9 | _=>0,λkey_=>match key_ with
 | 3=>some (⟨Nat,λi=>[(0,.own 1000000 0 5),(5,.pt 5 0 5 0 0),(11,.k (.list .q) ys),(12,.k (.int .i64) ((ys.length:Nat):Int)),(13,.k (.int .i64) ((i:Nat):Int))],
 λi=>[(5,.box 40 (.k .q k)),(1000000,.arr 40 .q (aA xs.length λj=>if j<i then xs.getD j 0-k*ys.getD j 0 else xs.getD j 0))],λ_ i=>i<=ys.length/\k≠0,λi=>ys.length-i⟩) | _=>none,nR,nU⟩
def agR (xs ys:List Rat) (k:Rat):Prop:=Sq BQ k/\bif decide (k.num.sign=0) then xs=aA xs.length λ(j:Nat)=>xs.getD j 0-k*ys.getD j 0 else ys.length<=aB->∃(x0:Nat),
 ((ys=ys/\(↑ys.length:Int)=↑ys.length/\(0:Int)=(x0:Int))/\k=k/\xs=aA xs.length λ(j:Nat)=>if j<x0 then xs.getD j 0-k *
 ys.getD j 0 else xs.getD j 0)/\(x0<=ys.length/\k≠0)/\∀(x:Nat),
 let u1:=(↑(aA xs.length λ(j:Nat)=>if j<x then xs.getD j 0-k*ys.getD j 0 else xs.getD j 0).length:Int);x<=ys.length/\k≠(0 :
 Rat)->bif decide ((x:Int)<↑ys.length) then (0<=(x:Int)/\(x:Int)<↑ys.length)/\Sq BQ (ys.getD (x:Int).toNat 0)/\bif
 !decide ((ys.getD (x:Int).toNat 0).num.sign=0) then (0<=(x:Int)/\(x:Int)<u1)/\(x:Int).toNat<(aA xs.length λ(j:Nat)=>
 if j<x then xs.getD j 0-k*ys.getD j 0 else xs.getD j 0).length/\(Sq BQ k/\Sq BQ (ys.getD (x:Int).toNat 0))/\(Sq BQ ((aA
 xs.length λ(j:Nat)=>if j<x then xs.getD j 0-k*ys.getD j 0 else xs.getD j 0).getD (x:Int).toNat 0)/\Sq BQ (k*ys.getD (↑x
 : Int).toNat 0))/\(0<=(x:Int)/\(x:Int)<u1)/\(x:Int).toNat<(aA xs.length λ(j:Nat)=>if j<x then xs.getD j 0-k*ys.getD
 j (0:Rat) else xs.getD j 0).length/\ax ((x:Int)+1)/\∃(x':Nat),((ys=ys/\(↑ys.length:Int)=↑ys.length/\(x:Int)+1
 = (x':Int))/\k=k/\(aA xs.length λ(j:Nat)=>if j<x then xs.getD j 0-k*ys.getD j 0 else xs.getD j 0).set (x:Int).toNat ((aA
 xs.length λ(j:Nat)=>if j<x then xs.getD j 0-k*ys.getD j 0 else xs.getD j 0).getD (x:Int).toNat 0-k*ys.getD (↑x :
 Int).toNat 0)=aA xs.length λ(j:Nat)=>if j<x' then xs.getD j 0-k*ys.getD j 0 else xs.getD j 0)/\(x'<=ys.length/\k≠(0 :
 Rat))/\ys.length-x'<ys.length-x else ax ((x:Int)+1)/\∃(x':Nat),((ys=ys/\(↑ys.length:Int)=↑ys.length/\(x:Int)+1 =
 (x':Int))/\k=k/\(aA xs.length λ(j:Nat)=>if j<x then xs.getD j 0-k*ys.getD j 0 else xs.getD j 0)=aA xs.length λ(j:Nat)
 =>if j<x' then xs.getD j 0-k*ys.getD j 0 else xs.getD j 0)/\(x'<=ys.length/\k≠0)/\ys.length-x'<ys.length-x else (aA
 xs.length λ(j:Nat)=>if j<x then xs.getD j 0-k*ys.getD j 0 else xs.getD j 0)=aA xs.length λ(j:Nat)=>xs.getD j 0-k
 * ys.getD j 0
theorem ahM (xs ys:List Rat) (k:Rat) (gh_:Nat->Value):awp (acp (cfg LX1 []) (0+1) gh_) (aiC xs ys k) Tryz.f166.ntmps (Tryz.f166.body.getD .skip) (agE Tryz.f166.results.toList (.eX .nil) 0 5 (.arr 40 .q (aA xs.length λj=>xs.getD j 0-k*ys.getD j 0))) ⟨apL 0 [.own 1000000 0 5,.k (.list .q) ys,.k .q k],[(dj,.arr 40 .q xs)]⟩=agR xs ys k:=by kernel_rfl
theorem ahN (xs ys:List Rat) (k:Rat) (hg:xs.length=ys.length/\SL BQ xs/\SL BQ ys/\Sq BQ k/\∀j,Sq BQ (k*ys.getD j 0)):agR xs ys k:=by
 obtain⟨hl,h1,h2,h3,h4⟩:=hg;unfold agR;have at_:∀i,i<xs.length->(aA xs.length λj=>if j<i then xs.getD j 0-k*ys.getD j 0 else xs.getD j 0).getD i 0=xs.getD i 0:=λi hi=>by rw[fW hi,dw (yz i)]
 refine⟨h3,aH (λh=>?_) λh hL=>⟨0,⟨⟨rfl,rfl,rfl⟩,rfl,?_⟩,⟨ia _,λe=>h (sign_zero.2 e)⟩,λi ⟨hi,hk⟩=>aH (λh5=>⟨idx h5,h2 i,dP (λh6=>?_) λh6=>?_⟩) λh5=>?_⟩⟩
 ·exact(ad3 xs 0).symm.trans (bE λj _=>by rw[sign_zero.1 h];grind)
 ·exact(ad3 xs 0).symm.trans (bE λj _=>(dw (nc _)).symm)
 ·have cw:i<ys.length:=by omega
  have hx:i<xs.length:=by omega
  have e:=at_ i hx;have e1:Sq BQ ((aA xs.length λj=>if j<i then xs.getD j 0-k*ys.getD j 0 else xs.getD j 0).getD i 0):=by rw[e];exact h1 i
  have r1:(0:Int)<=(i:Int)/\(i:Int)<(((aA xs.length λj=>if j<i then xs.getD j 0-k*ys.getD j 0 else xs.getD j 0).length:Nat):Int):=by rw[mX];omega
  have r2:i<(aA xs.length λj=>if j<i then xs.getD j 0-k*ys.getD j 0 else xs.getD j 0).length:=by rw[mX];exact hx
  refine⟨r1,r2,⟨h3,h2 i⟩,⟨e1,h4 i⟩,r1,r2,nQ cw hL,i+1,⟨⟨rfl,rfl,rfl⟩,rfl,?_⟩,⟨by omega,hk⟩,by omega⟩;rw[show((i:Nat):Int).toNat=i from rfl,e,mY hx];refine bE λj _=>?_;rcases uZ j i with h7 | h7 | h7
  ·rw[dw (by omega),fi h7,fi (by omega)]
  ·rw[fi h7,fi (by omega),h7]
  ·rw[dw (by omega),dw (by omega),dw (by omega)]
 ·have cw:i<ys.length:=by omega
  refine⟨nQ cw hL,i+1,⟨⟨rfl,rfl,rfl⟩,rfl,bE λj _=>?_⟩,⟨by omega,hk⟩,by omega⟩;have h6:ys.getD i 0=0:=sign_zero.1 h6;rcases uZ j i with h7 | h7 | h7
  ·rw[fi h7,fi (by omega)]
  ·rw[dw (by omega),fi (by omega),h7,h6];grind
  ·rw[dw (by omega),dw (by omega)]
 ·exact bE λj hj=>fi (by omega)
theorem afh:AQ (cfg []) agQ:=alr aeN bp Tryz.func166 (by kernel_rfl) (by kernel_rfl) λargs ob g r ob' hc hg hf=>by
 replace hc:a5u args ob=some (g,r,ob'):=hc;unfold a5u at hc;split at hc
 ·cases hc;have hv:=ahN _ _ _ hg;exact⟨by kernel_rfl,5,_,rfl,λgh=>by cases aY (ahM _ _ _ gh) hv;assumption⟩
 ·cases hc
noncomputable def LX2:List az:=ya::N0::agO::LX1
theorem ai2:bd LX2:=⟨uz,L6,afe,aeN⟩
noncomputable def MX1:List lE:=agQ::[]
theorem ai3:ku MX1:=⟨afh,trivial⟩
def a2I:CF
 | [.k (.list (.list .q)) M]=>some (some (aj M=true->acu M),T2 (.agg (.cons (.k (.list (.list .q)) (bz (aj M) (aaf M))) (.cons (.k (.list (.int .i64)) (bif aj M then abp M else [])) .nil))) (.k (.int .i64) (bu (aj M))),[])
 | _=>none
def aeb:az:=⟨120,false,a2I⟩
def agi (M:LM):bk:=⟨λkey_=>match key_ with | 11=>12 | 12=>13 | 16=>8 | 22=>15 | _=>0,λkey_=>match key_ with
 | 6=>some (⟨Nat×List Nat×LM,λp=>[(0,.k (.list (.list .q)) M),(2,.pt 2 0 2 0 0),(4,.own 19 0 1),(5,.own 109 0 1),(23,.k (.int .i64) ((al M:Nat):Int)),(24,.k (.int .i64) ((p.1:Nat):Int))],
 λp=>[(2,.box 172 (.agg (.cons .dv (.cons .dv .nil)))),(19,.bc 31 40 .q p.2.1 p.2.2),(109,.arr 3 (.int .i64) (K5 (L5 M p.1).2))],
 λ_ p=>aj M=true/\p.1<=al M/\Holds M.length (al M) p.2.1 p.2.2 (L5 M p.1).1,λp=>al M-p.1⟩)
 | 1000011=>some (⟨Nat×List Nat×LM,λp=>[(0,.k (.list (.list .q)) M),(2,.pt 2 0 2 0 0),(4,.own 19 0 1),(5,.own 109 0 1),(6,.k (.int .i64) ((p.1:Nat):Int)),(7,.k (.int .i64) ((tpR M p.1:Nat):Int)),(23,.k (.int .i64) ((al M:Nat):Int)),(24,.k (.int .i64) ((p.1:Nat):Int))],
 λp=>[(2,.box 172 (.agg (.cons .dv (.cons .dv .nil)))),(19,.bc 31 40 .q p.2.1 p.2.2),(109,.arr 3 (.int .i64) (K5 (L5 M p.1).2))],
 λq p=>p.1=q.1/\aj M=true/\p.1<al M/\pvR M p.1<M.length/\Holds M.length (al M) p.2.1 p.2.2 (swR M p.1),λp=>0⟩)
 | 14=>some (⟨Nat×Nat×List Nat×LM,λp=>[(0,.k (.list (.list .q)) M),(2,.pt 2 0 2 0 0),(4,.own 19 0 1),(5,.own 109 0 1),(6,.k (.int .i64) ((p.2.1:Nat):Int)),(7,.k (.int .i64) ((tpR M p.2.1:Nat):Int)),(9,.pt 9 0 5 0 0),(23,.k (.int .i64) ((al M:Nat):Int)),(24,.k (.int .i64) ((p.2.1:Nat):Int)),(64,.own 19 (p.2.2.1.getD (tpR M p.2.1) 0+1) 5),(65,.k (.int .i64) ((al M:Nat):Int)),(66,.k (.int .i64) ((p.1:Nat):Int))],
 λp=>[(2,.box 172 (.agg (.cons .dv (.cons .dv .nil)))),(9,.box 40 (.k .q (kR M p.2.1))),(19,.bc 31 40 .q p.2.2.1 p.2.2.2),(109,.arr 3 (.int .i64) (K5 (L5 M p.2.1).2))],
 λq p=>p.2.1=q.2.1/\p.2.2.1=q.2.2.1/\aj M=true/\p.2.1<al M/\pvR M p.2.1<M.length/\p.1<=al M/\Holds M.length (al M) p.2.2.1 p.2.2.2 (scT M p.2.1 p.1),λp=>al M-p.1⟩)
 | 19=>some (⟨Nat×Nat×List Nat×LM,λp=>[(0,.k (.list (.list .q)) M),(2,.pt 2 0 2 0 0),(4,.own 19 0 1),(5,.own 109 0 1),(6,.k (.int .i64) ((p.2.1:Nat):Int)),(7,.k (.int .i64) ((tpR M p.2.1:Nat):Int)),(23,.k (.int .i64) ((al M:Nat):Int)),(24,.k (.int .i64) ((p.2.1:Nat):Int)),(82,.k (.int .i64) ((M.length:Nat):Int)),(83,.k (.int .i64) ((p.1:Nat):Int))],
 λp=>[(2,.box 172 (.agg (.cons .dv (.cons .dv .nil)))),(19,.bc 31 40 .q p.2.2.1 p.2.2.2),(109,.arr 3 (.int .i64) (K5 (L5 M p.2.1).2))],
 λq p=>p.2.1=q.2.1/\aj M=true/\p.2.1<al M/\pvR M p.2.1<M.length/\p.1<=M.length/\Holds M.length (al M) p.2.2.1 p.2.2.2 (elT M p.2.1 p.1),λp=>M.length-p.1⟩) | _=>none,nR,nU⟩
def aec (M:LM):Prop:=
 let t1:=(↑(al M):Int);
 bif !aj M then (bz (aj M) (aaf M)=[]/\(bif aj M then abp M else [])=[])/\(5:Int)=bu (aj M) else ((0:Int)<=(0:Int)/\(0:Int) <
 (↑M.length:Int))/\((M.getD (Int.toNat (0:Int)) []).length<=aB->∃(x0:Nat×List Nat×LM),((M=M/\(↑(M.getD (Int.toNat (0:Int)) []).length :
 Int)=t1/\(0:Int)=(↑x0.1:Int))/\(bh M.length M.length=x0.2.1/\[]::M=x0.2.2)/\K5 (L5 M x0.1).snd=[])/\(aj M=true/\x0.1<=al M/\Holds
 M.length (al M) x0.2.1 x0.2.2 (L5 M x0.1).fst)/\∀(x:Nat×List Nat×LM),let u3:=K5 (L5 M x.1).snd;
 let u1:=List.map (λ(p:Nat)=>x.2.2.getD p []) x.2.1;let u14:=abu u1 x.1 u3.length;
 let u9:=x.2.1.set (↑u3.length:Int).toNat ((x.2.1.getD u14.toNat 0));aj M=true/\x.1<=al M/\Holds M.length (al M) x.2.1 x.2.2 (L5 M x.1).fst ->
 bif decide ((↑x.1:Int)<t1) then u3.length<=aB->(u3.length<=u1.length/\(∀(i:Nat),i<u1.length->x.1<(u1.getD i []).length)/\SM BQ u1)/\bif decide (abu
 u1 x.1 u3.length<0) then ax ((↑x.1:Int)+1)/\∃(x':Nat×List Nat×LM),((M=M/\t1=t1/\(↑x.1:Int)+1=(↑x'.1 :
 Int))/\(x.2.1=x'.2.1/\x.2.2=x'.2.2)/\K5 (L5 M x.1).snd=K5 (L5 M x'.1).snd)/\(aj M=true/\x'.1<=al M/\Holds M.length (al M) x'.2.1 x'.2.2 (L5
 M x'.1).fst)/\al M-x'.1<al M-x.1 else ((0:Int)<=abu u1 x.1 u3.length/\abu u1 x.1 u3.length<(↑x.2.1.length:Int))/\u14.toNat<x.2.1.length/\((0 :
 Int)<=(↑u3.length:Int)/\(↑u3.length:Int)<↑x.2.1.length)/\(↑u3.length:Int).toNat<x.2.1.length/\(0<=(↑u3.length:Int)/\(↑u3.length:Int) <
 (↑x.2.1.length:Int))/\((↑u3.length:Int).toNat<x.2.1.length/\(x.2.1.getD u14.toNat 0)<x.2.2.length)/\((0:Int)<=abu u1 x.1 u3.length/\abu u1 x.1
 u3.length<(↑u9.length:Int))/\(u14.toNat<u9.length/\(x.2.1.getD (↑u3.length:Int).toNat 0)<x.2.2.length)/\∃(x0:Nat×List Nat×LM),
 ((M=M/\(↑x.1:Int)=↑x0.1/\(↑u3.length:Int)=(↑(tpR M x0.1):Int)/\t1=t1/\(↑x.1:Int)=↑x0.1)/\(u9.set u14.toNat ((x.2.1.getD (↑u3.length
 : Int).toNat 0))=x0.2.1/\x.2.2=x0.2.2)/\K5 (L5 M x.1).snd=K5 (L5 M x0.1).snd)/\(x0.1=x0.1/\aj M=true/\x0.1<al M/\pvR M x0.1 <
 M.length/\Holds M.length (al M) x0.2.1 x0.2.2 (swR M x0.1))/\∀(y1:Nat×List Nat×LM),let u11:=(↑(tpR M y1.1):Int);
 let u4:=y1.2.1.getD u11.toNat 0;let u15:=y1.2.2.getD u4 [];y1.1=x0.1/\aj M=true/\y1.1<al M/\pvR M y1.1<M.length/\Holds M.length (al M)
 y1.2.1 y1.2.2 (swR M y1.1)->ax (1:Int)/\((0:Int)<=u11/\u11<(↑y1.2.1.length:Int))/\u11.toNat<y1.2.1.length/\(u4<y1.2.2.length/\0<=(↑y1.1 :
 Int)/\(↑y1.1:Int)<↑u15.length)/\(u4<y1.2.2.length/\(↑y1.1:Int).toNat<u15.length)/\(Sq BQ (↑(1:Int):Rat)/\Sq BQ (u15.getD (↑y1.1:Int).toNat (0
 : Rat)))/\((0:Int)<=u11/\u11<(↑y1.2.1.length:Int))/\u11.toNat<y1.2.1.length/\(u15.length<=aB->u4<y1.2.2.length/\∃(x0:Nat×Nat×List Nat×List
 (List Rat)),((M=M/\(↑y1.1:Int)=↑x0.2.1/\u11=(↑(tpR M x0.2.1):Int)/\t1=t1/\(↑y1.1:Int)=↑x0.2.1/\u4=(x0.2.2.1.getD (tpR M x0.2.1) (0
 : Nat))/\(↑u15.length:Int)=t1/\(0:Int)=(↑x0.1:Int))/\(↑(1:Int):Rat)/u15.getD (↑y1.1:Int).toNat 0=kR M x0.2.1/\(y1.2.1=x0.2.2.1/\y1.2.2
 = x0.2.2.2)/\K5 (L5 M y1.1).snd=K5 (L5 M x0.2.1).snd)/\(x0.2.1=x0.2.1/\x0.2.2.1=x0.2.2.1/\aj M=true/\x0.2.1<al M/\pvR M x0.2.1<M.length /\
 x0.1<=al M/\Holds M.length (al M) x0.2.2.1 x0.2.2.2 (scT M x0.2.1 x0.1))/\∀(y2:Nat×Nat×List Nat×LM),let u13:=(↑(tpR M y2.2.1):Int);
 let u6:=y2.2.2.1.getD (tpR M y2.2.1) 0;let u5:=y2.2.2.1.getD u13.toNat 0;y2.2.1=x0.2.1/\y2.2.2.1=x0.2.2.1/\aj M=true/\y2.2.1<al M
 /\ pvR M y2.2.1<M.length/\y2.1<=al M/\Holds M.length (al M) y2.2.2.1 y2.2.2.2 (scT M y2.2.1 y2.1)->bif decide ((↑y2.1:Int)<t1) then (u6<y2.2.2.2.length /\
 0<=(↑y2.1:Int)/\(↑y2.1:Int)<↑(y2.2.2.2.getD u6 []).length)/\(u6<y2.2.2.2.length/\(↑y2.1:Int).toNat<(y2.2.2.2.getD u6 []).length)/\((0 :
 Int)<=u13/\u13<(↑y2.2.2.1.length:Int))/\u13.toNat<y2.2.2.1.length/\(Sq BQ ((y2.2.2.2.getD u6 []).getD (↑y2.1:Int).toNat 0)/\Sq BQ (kR M y2.2.1)) /\
 (u5<y2.2.2.2.length/\0<=(↑y2.1:Int)/\(↑y2.1:Int)<↑(y2.2.2.2.getD u5 []).length)/\(u5<y2.2.2.2.length/\(↑y2.1:Int).toNat<(y2.2.2.2.getD
 u5 []).length)/\ax ((↑y2.1:Int)+1)/\∃(x':Nat×Nat×List Nat×LM),((M=M/\(↑y2.2.1:Int)=↑x'.2.1/\u13=(↑(tpR M x'.2.1)
 : Int)/\t1=t1/\(↑y2.2.1:Int)=↑x'.2.1/\u6=(x'.2.2.1.getD (tpR M x'.2.1) 0)/\t1=t1/\(↑y2.1:Int)+1=↑x'.1)/\kR M y2.2.1
 = kR M x'.2.1/\(y2.2.2.1=x'.2.2.1/\y2.2.2.2.set u5 ((y2.2.2.2.getD u5 []).set (↑y2.1:Int).toNat ((y2.2.2.2.getD u6 []).getD (↑y2.1:Int).toNat 0*kR M
 y2.2.1))=x'.2.2.2)/\K5 (L5 M y2.2.1).snd=K5 (L5 M x'.2.1).snd)/\(x'.2.1=x0.2.1/\x'.2.2.1=x0.2.2.1/\aj M=true/\x'.2.1<al M/\pvR M x'.2.1 <
 M.length/\x'.1<=al M/\Holds M.length (al M) x'.2.2.1 x'.2.2.2 (scT M x'.2.1 x'.1))/\al M-x'.1<al M-y2.1 else y2.2.2.1.length<=aB->∃(x0:Nat ×
 Nat×List Nat×LM),((M=M/\(↑y2.2.1:Int)=↑x0.2.1/\u13=(↑(tpR M x0.2.1):Int)/\t1=t1/\(↑y2.2.1:Int)=↑x0.2.1 /\
 (↑y2.2.2.1.length:Int)=↑M.length/\(0:Int)=(↑x0.1:Int))/\(y2.2.2.1=x0.2.2.1/\y2.2.2.2=x0.2.2.2)/\K5 (L5 M y2.2.1).snd=K5 (L5 M x0.2.1).snd)
 /\ (x0.2.1=x0.2.1/\aj M=true/\x0.2.1<al M/\pvR M x0.2.1<M.length/\x0.1<=M.length/\Holds M.length (al M) x0.2.2.1 x0.2.2.2 (elT M x0.2.1 x0.1))/\∀
 (y3:Nat×Nat×List Nat×LM),let u8:=(↑y3.2.1:Int);let u7:=(↑(tpR M y3.2.1):Int);let u12:=y3.2.2.1.getD u7.toNat 0;
 let u2:=y3.2.2.1.getD (↑y3.1:Int).toNat 0;let u10:=y3.2.2.2.getD u2 [];y3.2.1=x0.2.1/\aj M=true/\y3.2.1<al M/\pvR M y3.2.1<M.length /\
 y3.1<=M.length/\Holds M.length (al M) y3.2.2.1 y3.2.2.2 (elT M y3.2.1 y3.1)->bif decide ((↑y3.1:Int)<↑M.length) then bif !decide ((↑y3.1:Int)=u7)
 then (0<=(↑y3.1:Int)/\(↑y3.1:Int)<↑y3.2.2.1.length)/\(↑y3.1:Int).toNat<y3.2.2.1.length/\((0:Int)<=u7/\u7<(↑y3.2.2.1.length:Int)) /\
 u7.toNat<y3.2.2.1.length/\(0<=(↑y3.1:Int)/\(↑y3.1:Int)<↑y3.2.2.1.length)/\(↑y3.1:Int).toNat<y3.2.2.1.length/\(u2<y3.2.2.2.length/\(0 :
 Int)<=u8/\u8<(↑u10.length:Int))/\(u2<y3.2.2.2.length/\u8.toNat<u10.length)/\(u2<y3.2.2.2.length/\u12≠u2/\u10.length=(y3.2.2.2.getD u12 []).length /\
 SL BQ u10/\SL BQ (y3.2.2.2.getD u12 [])/\Sq BQ (u10.getD u8.toNat 0)/\∀(j:Nat),Sq BQ (u10.getD u8.toNat 0*(y3.2.2.2.getD u12 []).getD j (0 :
 Rat)))/\ax ((↑y3.1:Int)+1)/\∃(x':Nat×Nat×List Nat×LM),((M=M/\u8=(↑x'.2.1:Int)/\u7=(↑(tpR M x'.2.1):Int)/\t1=t1/\u8
 = (↑x'.2.1:Int)/\(↑M.length:Int)=↑M.length/\(↑y3.1:Int)+1=↑x'.1)/\(y3.2.2.1=x'.2.2.1/\y3.2.2.2.set u2 (aA u10.length λ(j :
 Nat)=>u10.getD j 0-u10.getD u8.toNat 0*(y3.2.2.2.getD u12 []).getD j 0)=x'.2.2.2)/\K5 (L5 M y3.2.1).snd=K5 (L5 M x'.2.1).snd) /\
 (x'.2.1=x0.2.1/\aj M=true/\x'.2.1<al M/\pvR M x'.2.1<M.length/\x'.1<=M.length/\Holds M.length (al M) x'.2.2.1 x'.2.2.2 (elT M x'.2.1 x'.1)) /\
 M.length-x'.1<M.length-y3.1 else ax ((↑y3.1:Int)+1)/\∃(x':Nat×Nat×List Nat×LM),((M=M/\u8=(↑x'.2.1:Int)/\u7=(↑(tpR M
 x'.2.1):Int)/\t1=t1/\u8=(↑x'.2.1:Int)/\(↑M.length:Int)=↑M.length/\(↑y3.1:Int)+1=↑x'.1)/\(y3.2.2.1=x'.2.2.1/\y3.2.2.2 =
 x'.2.2.2)/\K5 (L5 M y3.2.1).snd=K5 (L5 M x'.2.1).snd)/\(x'.2.1=x0.2.1/\aj M=true/\x'.2.1<al M/\pvR M x'.2.1<M.length/\x'.1<=M.length/\Holds
 M.length (al M) x'.2.2.1 x'.2.2.2 (elT M x'.2.1 x'.1))/\M.length-x'.1<M.length-y3.1 else (K5 (L5 M y3.2.1).snd).length+[u8].length<=aB/\ax (u8+(1 :
 Int))/\∃(x':Nat×List Nat×LM),((M=M/\t1=t1/\u8+(1:Int)=(↑x'.1:Int))/\(y3.2.2.1=x'.2.1/\y3.2.2.2=x'.2.2)/\(K5 (L5 M
 y3.2.1).snd).append [u8]=K5 (L5 M x'.1).snd)/\(aj M=true/\x'.1<=al M/\Holds M.length (al M) x'.2.1 x'.2.2 (L5 M x'.1).fst)/\al M-x'.1<al M
 - x.1) else u3.length<=aB->u3.length<=aB->rz u1.length none (some (↑u3.length:Int)) (some (↑u3.length:Int))/\(aM9 u1 none (some (↑u3.length:Int))=bz
 (aj M) (aaf M)/\K5 (L5 M x.1).snd=bif aj M then abp M else [])/\(0:Int)=bu (aj M))
theorem afK (M:LM):aw LX2 MX1 (agi M) Tryz.f120 (T2 (.agg (.cons (.k (.list (.list .q)) (bz (aj M) (aaf M))) (.cons (.k (.list (.int .i64)) (bif aj M then abp M else [])) .nil))) (.k (.int .i64) (bu (aj M)))) [.k (.list (.list .q)) M]=aec M:=by kernel_rfl
theorem afL (M:LM) (hg:aj M=true->acu M):aec M:=by
 unfold aec;dsimp only;refine a8X (λh=>by rw[h];exact⟨⟨rfl,rfl⟩,rfl⟩) λhR=>?_
 obtain⟨m1,m2,m3⟩:=ba hR;have hg:=hg hR;refine⟨⟨by omega,by omega⟩,λhL0=>⟨(0,bh M.length M.length,[]::M),⟨⟨rfl,rfl,rfl⟩,⟨rfl,rfl⟩,rfl⟩,⟨hR,ia _,Holds.init m3⟩,λ⟨c,out,ai⟩ ⟨_,hc,hH⟩=>?_⟩⟩;dsimp only at hc hH ⊢;have hL0:al M<=aB:=hL0;have ht:=ahk M c;have eL:(K5 (L5 M c).2).length=tpR M c:=adq _;rw[eL];refine aH (λaU pd=>?_) λiU hL1 n5=>?_
 ·have j7:c<al M:=by omega
  have hpg:=ai1 M c;have ePv:∀t,pvN (out.map λp=>ai.getD p []) c t=aA5 (L5 M c).1 c t (M.length-t):=λt=>by rw[hH.rows];exact ahi _ j7
  have eRl:(out.map λp=>ai.getD p []).length=M.length:=by rw[hH.rows,ab9]
  obtain⟨t0,t1,t2,hsq⟩:=ahj hg j7;refine⟨⟨by rw[eRl];exact ht,λi hi=>?_,(hH.sm hsq t1).le (by omega)⟩,?_⟩
  ·rw[eRl] at hi;rw[hH.rows,na hi,mX];exact j7
  by_cases hp:pvR M c<M.length
  ·have eP:abu (out.map λp=>ai.getD p []) c (tpR M c)=((pvR M c:Nat):Int):=by
    rw[aea (by rw[ePv,eRl];exact hp),ePv];rfl
   rw[eP];have htl:tpR M c<M.length:=by omega
   obtain⟨p1,p2,p3⟩:=idh hH hp;obtain⟨q1,q2,q3⟩:=idh hH htl;refine aH (λh=>by omega) λ_=>⟨p1,p2,q1,q2,q1,⟨q2,p3⟩,⟨by omega,by rw[px];exact p1.2⟩,⟨by rw[px];exact p2,q3⟩,(c,(out.set (tpR M c) (out.getD (pvR M c) 0)).set (pvR M c) (out.getD (tpR M c) 0),ai),⟨⟨rfl,rfl,rfl,rfl,rfl⟩,⟨rfl,rfl⟩,rfl⟩,⟨rfl,hR,j7,hp,hH.swap htl hp⟩,λ⟨c2,o2,pl2⟩ ⟨cG,_,_,_,hS⟩=>?_⟩
   dsimp only at cG hS ⊢;subst cG;have cs:=akX hg j7 hp;obtain⟨a1,a2,a3⟩:=idh hS htl;obtain⟨b1,b2⟩:=idc hS htl j7;have eC:=hS.cell 0 htl j7;have amz:=hS.rowLen htl;refine⟨by unfold ax;omega,a1,a2,b1,b2,⟨?_,?_⟩,a1,a2,λ_=>⟨a3,(0,c2,o2,pl2),⟨⟨rfl,rfl,rfl,rfl,rfl,rfl,by rw[show((tpR M c2:Nat):Int).toNat=tpR M c2 from rfl,amz],rfl⟩,?_,⟨rfl,rfl⟩,rfl⟩,⟨rfl,rfl,hR,j7,hp,ia _,hS.congr λi j _ _=>?_⟩,λ⟨j,c3,o3,pl3⟩ ⟨cG,hoo,_,_,_,hj,hT⟩=>?_⟩⟩
   ·exact Sq.int (n:=1) (Sm.one.le BQ1) BQ1
   ·rw[show((tpR M c2:Nat):Int).toNat=tpR M c2 from rfl,show((c2:Nat):Int).toNat=c2 from rfl,eC];exact cs.sw _ _
   ·rw[show((tpR M c2:Nat):Int).toNat=tpR M c2 from rfl,show((c2:Nat):Int).toNat=c2 from rfl,eC];rfl
   ·show swR M c2 i j=scT M c2 0 i j;unfold scT;rw[dw λe=>nc _ e.2]
   dsimp only at cG hoo hj hT ⊢;subst cG;subst hoo;refine aH (λh=>?_) λh YE=>?_
   ·have uC:j<al M:=by omega
    obtain⟨d1,d2⟩:=idc hT htl uC;obtain⟨f1,f2,f3⟩:=idh hT htl;have e1:=hT.cell 0 htl uC;refine⟨d1,d2,f1,f2,⟨?_,cs.k⟩,d1,d2,nQ uC hL0,(j+1,c3,o3,_),⟨⟨rfl,rfl,rfl,rfl,rfl,rfl,rfl,rfl⟩,rfl,⟨rfl,rfl⟩,rfl⟩,⟨rfl,rfl,hR,j7,hp,uC,(hT.amw htl uC _).congr λi j' _ _=>?_⟩,by show _-(j+1)<_-j;omega⟩
    ·rw[show((j:Nat):Int).toNat=j from rfl,e1];exact cs.sc _ _ _
    ·rw[show((j:Nat):Int).toNat=j from rfl,e1];unfold scT;by_cases e2:i=tpR M c3
     ·rcases uZ j' j with h5 | h5 | h5
      ·rw[dw (by omega),fi ⟨e2,h5⟩,fi ⟨e2,by omega⟩]
      ·rw[fi ⟨e2,h5⟩,dw (by omega),fi ⟨e2,by omega⟩,e2,h5]
      ·rw[dw (by omega),dw (by omega),dw (by omega)]
     ·rw[dw λe=>e2 e.1,dw λe=>e2 e.1,dw λe=>e2 e.1]
   ·have hTl:=hT.len;refine⟨(0,c3,o3,pl3),⟨⟨rfl,rfl,rfl,rfl,rfl,by rw[hTl],rfl⟩,⟨rfl,rfl⟩,rfl⟩,⟨rfl,hR,j7,hp,ia _,hT.congr λi j' _ sH=>?_⟩,λ⟨i,c4,o4,pl4⟩ ⟨cG,_,_,_,hi,hE⟩=>?_⟩
    ·show scT M c3 j i j'=elT M c3 0 i j';have h0:¬(i≠tpR M c3/\i<0):=λe=>nc _ e.2;unfold scT elT scR wa;rw[dw h0];by_cases e2:i=tpR M c3
     ·rw[fi ⟨e2,by omega⟩,fi e2]
     ·rw[dw λe=>e2 e.1,dw e2]
    dsimp only at cG hi hE ⊢;subst cG;have hML:M.length<=aB:=by rw[<-hTl];exact YE
    refine aH (λh6=>?_) λh6=>?_
    ·have cw:i<M.length:=by omega
     refine dP (λh7=>?_) λh7=>?_
     ·have ay:i≠tpR M c4:=λe=>h7 (by rw[e]);obtain⟨g1,g2,g3⟩:=idh hE cw;obtain⟨k1,k2,k3⟩:=idh hE htl;obtain⟨l1,l2⟩:=idc hE cw j7;have e1:=hE.cell 0 cw j7;have r1:=hE.row i cw;have r2:=hE.row (tpR M c4) htl;have v1:∀j',elT M c4 i i j'=scR M c4 i j':=λj'=>dw λe=>yz _ e.2;have v2:∀j',elT M c4 i (tpR M c4) j'=scR M c4 (tpR M c4) j':=λj'=>dw λe=>e.1 rfl;refine⟨g1,g2,k1,k2,g1,g2,l1,l2,⟨g3,λe=>ay (hE.inj _ _ htl cw e).symm,?_,?_,?_,?_,λj'=>?_⟩,nQ cw hML,(i+1,c4,o4,_),⟨⟨rfl,rfl,rfl,rfl,rfl,rfl,rfl⟩,⟨rfl,rfl⟩,rfl⟩,⟨rfl,hR,j7,hp,cw,(hE.set cw (f:=λj'=>scR M c4 i j'-scR M c4 i c4*scR M c4 (tpR M c4) j') ?_).congr λi' j' _ _=>?_⟩,by show _-(i+1)<_-i;omega⟩;all_goals simp only[show((i:Nat):Int).toNat=i from rfl,show((tpR M c4:Nat):Int).toNat=tpR M c4 from rfl,show((c4:Nat):Int).toNat=c4 from rfl]
      ·rw[r1,r2,mX,mX]
      ·rw[r1];exact SL.mk (λ_ _=>cs.el _ _ _) BQ1
      ·rw[r2];exact SL.mk (λ_ _=>cs.el _ _ _) BQ1
      ·rw[e1];exact cs.el _ _ _
      ·rw[e1,r2];rcases aV j' (al M) with sH | sH
       ·rw[fW sH,v1,v2];exact cs.pr _ _ ay
       ·rw[ss sH,GD];exact Sq.zero _ BQ1
      ·rw[e1,r1,r2,mX];exact bE λj' sH=>by rw[fW sH,fW sH,v1,v1,v2]
      ·by_cases e2:i'=i
       ·subst e2;rw[fi rfl];exact(fi ⟨ay,yi _⟩).symm
       ·rw[dw e2];unfold elT;by_cases e3:i'≠tpR M c4/\i'<i
        ·rw[fi e3,fi ⟨e3.1,by omega⟩]
        ·rw[dw e3,dw λe=>e3 ⟨e.1,by omega⟩]
     ·have e2:i=tpR M c4:=by omega
      refine⟨nQ cw hML,(i+1,c4,o4,pl4),⟨⟨rfl,rfl,rfl,rfl,rfl,rfl,rfl⟩,⟨rfl,rfl⟩,rfl⟩,⟨rfl,hR,j7,hp,cw,hE.congr λi' j' _ _=>?_⟩,by show _-(i+1)<_-i;omega⟩;show elT M c4 i i' j'=elT M c4 (i+1) i' j';unfold elT;by_cases e3:i'≠tpR M c4/\i'<i
      ·rw[fi e3,fi ⟨e3.1,by omega⟩]
      ·rw[dw e3,dw λe=>e3 ⟨e.1,by have:=e.1;omega⟩]
    ·have eS:=aiy hp;have fT:(K5 (L5 M c4).2).length+[((c4:Nat):Int)].length<=aB:=by rw[eL];simp only[tT,Cq];omega
     refine⟨fT,nQ j7 hL0,(c4+1,o4,pl4),⟨⟨rfl,rfl,rfl⟩,⟨rfl,rfl⟩,?_⟩,⟨hR,j7,?_⟩,by show _-(c4+1)<_-c4;omega⟩
     ·show _=K5 (L5 M (c4+1)).2;rw[eS];exact(ahH _ _).symm
     ·show Holds _ _ _ _ (L5 M (c4+1)).1;rw[eS];exact hE.congr λi' j' OK _=>by
       show elT M c4 i i' j'=abA (scR M c4) (tpR M c4) c4 i' j';unfold elT abA;by_cases e3:i'=tpR M c4
       ·rw[dw λe=>e.1 e3,fi e3]
       ·rw[fi ⟨e3,by omega⟩,dw e3]
  ·have eP:abu (out.map λp=>ai.getD p []) c (tpR M c) = -1:=aeT (by rw[ePv,eRl];exact hp);rw[eP];refine aH (λ_=>⟨nQ j7 hL0,(c+1,out,ai),⟨⟨rfl,rfl,rfl⟩,⟨rfl,rfl⟩,?_⟩,⟨hR,j7,?_⟩,by show _-(c+1)<_-c;omega⟩) λh=>by omega
   ·show _=K5 (L5 M (c+1)).2;rw[ahh hp]
   ·show Holds _ _ _ _ (L5 M (c+1)).1;rw[ahh hp];exact hH
 ·have e:c=al M:=by omega
  subst e;rw[hH.rows];have uN:((tpR M (al M):Nat):Int)<=(((aG M.length (al M) (L5 M (al M)).1).length:Nat):Int):=by rw[ab9];omega
  refine⟨⟨by omega,uN,rfl⟩,⟨?_,?_⟩,?_⟩
  ·rw[aiz hR];show(aG M.length (al M) (L5 M (al M)).1).take (tpR M (al M))=_;exact ahw ht
  ·rw[hR];rfl
  ·rw[hR];rfl
theorem ads:ah (cfg []) aeb:=cf ai2 ai3 Tryz.func120 λa _ _ _ hc hg hf=>by change a2I a=_ at hc;unfold a2I at hc;split at hc<;>cases hc;cases aY (afK _) (afL _ hg);exact⟨rfl,by kernel_rfl,_,by assumption⟩
theorem aeV {F G:Nat->Nat->Rat} {c:Nat}:∀{k t:Nat},(∀i,t<=i->i<t+k->F i c=G i c)->aA5 F c t k=aA5 G c t k
 | 0,_,_=>rfl
 | k+1,t,h=>by unfold aA5;rw[h t (bX t) (by omega),aeV λi h1 h2=>h i (by omega) (by omega)]
theorem aed {n m:Nat} {F G:Nat->Nat->Rat} (h:∀i j,i<n->j<m->F i j=G i j):∀c,c<=m->(rr n F c).2=(rr n G c).2/\∀i j,i<n->j<m->(rr n F c).1 i j=(rr n G c).1 i j
 | 0,_=>⟨rfl,h⟩
 | c+1,hc=>by
  obtain⟨h1,h2⟩:=aed h c (by omega);show(abv n (rr n F c) c).2=(abv n (rr n G c) c).2/\∀i j,i<n->j<m->(abv n (rr n F c) c).1 i j=(abv n (rr n G c) c).1 i j;generalize rr n F c=S at *
  generalize rr n G c=T at *
  obtain⟨S1,S2⟩:=S;obtain⟨T1,T2⟩:=T;dsimp only at h1 h2;subst h1;have hp:aA5 S1 c S2.length (n-S2.length)=aA5 T1 c S2.length (n-S2.length):=aeV λi h3 h4=>h2 i c (by omega) (by omega);unfold abv;dsimp only;rw[hp];have hpg:=(acn T1 c (n-S2.length) S2.length).1;generalize aA5 T1 c S2.length (n-S2.length)=p at *
  by_cases hpn:p<n
  ·rw[fi hpn,fi hpn];have sw:∀i j,i<n->j<m->dk S1 S2.length p i j=dk T1 S2.length p i j:=λi j hi hj=>by
    unfold dk;by_cases e1:i=S2.length
    ·rw[fi e1,fi e1];exact h2 _ _ hpn hj
    ·rw[dw e1,dw e1];by_cases e2:i=p
     ·rw[fi e2,fi e2];exact h2 _ _ (by omega) hj
     ·rw[dw e2,dw e2];exact h2 _ _ hi hj
   have hr:S2.length<n:=by omega
   have ek:=sw S2.length c hr (by omega);generalize dk S1 S2.length p=A at *
   generalize dk T1 S2.length p=B at *
   rw[ek];have sc:∀i j,i<n->j<m->wa A S2.length (1/B S2.length c) i j=wa B S2.length (1/B S2.length c) i j:=λi j hi hj=>by unfold wa;rw[sw i j hi hj]
   refine⟨rfl,λi j hi hj=>?_⟩;show abA (wa A S2.length (1/B S2.length c)) S2.length c i j=abA (wa B S2.length (1/B S2.length c)) S2.length c i j;unfold abA;rw[sc i j hi hj,sc i c hi (by omega),sc _ j hr hj]
  ·rw[dw hpn,dw hpn];exact⟨rfl,h2⟩
theorem aj7 {n c:Nat} {F:Nat->Nat->Rat} {x:Nat} (h:x∈(rr n F c).2):x<c:=by obtain⟨k,hk,rfl⟩:=ahx h 0;exact(aca n F c).lt k hk
theorem ak7 (n:Nat) (F:Nat->Nat->Rat):∀c,(acR (rr n F c).2 c).length+(rr n F c).2.length=c
 | 0=>rfl
 | c+1=>by
  have h:=ak7 n F c;have hm:c ∉ (rr n F c).2:=λhx=>yz c (aj7 hx);show(acR (abv n (rr n F c) c).2 (c+1)).length+(abv n (rr n F c) c).2.length=c+1;generalize rr n F c=S at *
  unfold abv;split
  ·show(acR (S.2++[c]) (c+1)).length+(S.2++[c]).length=c+1;rw[agh,fi (by simp),c6];have e:acR (S.2++[c]) c=acR S.2 c:=by
    unfold acR;refine List.filter_congr λx hx=>?_
    have hx:x<c:=tR.1 hx;have:(x∈S.2++[c])↔x∈S.2:=⟨λh1=>by
     rcases x9.1 h1 with h1 | h1
     ·exact h1
     ·have:=kI.1 h1;omega,λh1=>x9.2 (.inl h1)⟩
    simp only[this]
   rw[e];simp only[tT,Cq];omega
  ·rw[agh,dw hm,c6];simp only[tT,Cq];omega
def abB (m:Nat) (A B:Nat->Nat->Rat):Nat->Nat->Rat:=λi j=>if j<m then A i j else B i (j-m)
theorem agj {m:Nat} {A B:Nat->Nat->Rat} {i j:Nat} (h:j<m):abB m A B i j=A i j:=fi h
theorem agk (n m:Nat) (A B:Nat->Nat->Rat):(rr n (abB m A B) m).2=(rr n A m).2/\∀i j,i<n->j<m->(rr n (abB m A B) m).1 i j=(rr n A m).1 i j:=aed (λ_ _ _ hj=>agj hj) m (bX m)
theorem afN {n:Nat} {F:Nat->Nat->Rat} (h:∀y,Ker n n F y->∀j,j<n->y j=0):(rr n F n).2.length=n:=by
 have hr:=aca n F n;have bB:∀j,j<n->∃k,k<(rr n F n).2.length/\(rr n F n).2.getD k 0=j:=λj hj=>by refine FX λhn=>?_;have h1:=h _ ((aeM n).1 (hr.col hj λk hk e=>hn ⟨k,hk,e⟩)) j hj;unfold acm at h1;rw[fi rfl] at h1;exact absurd h1 (by decide)
 have e:(rr n F n).2=List.range n:=age hr.inc (λk k' hk sF=>by
  rw[AA] at sF;rw[au,au,CQ (by omega),CQ sF];exact hk) (λk hk=>⟨(rr n F n).2.getD k 0,by rw[AA];exact hr.lt k hk,by rw[au (l:=List.range n),CQ (hr.lt k hk)];rfl⟩) λk hk=>by
  rw[AA] at hk;obtain⟨k',h1,h2⟩:=bB k hk;exact⟨k',h1,by rw[h2,au,CQ hk];rfl⟩
 rw[e,AA]
theorem akQ (m:Nat) (A:Nat->Nat->Rat) (b:Nat->Rat):abD m A b=abB m A λi _=>b i:=rfl
def ajj (n m:Nat) (A:Nat->Nat->Rat) (b:Nat->Rat):Bool:=(rr n (abD m A b) (m+1)).2.all λx=>decide (x<m)
theorem adn {n m:Nat} {A:Nat->Nat->Rat} {b:Nat->Rat}:ajj n m A b=true↔∀x∈(rr n (abD m A b) (m+1)).2,x<m:=by unfold ajj;rw[tS];exact⟨λh x hx=>AB (h x hx),λh x hx=>tC (h x hx)⟩
theorem ami {n m:Nat} {A:Nat->Nat->Rat} {b:Nat->Rat} (h:ajj n m A b=true):rr n (abD m A b) (m+1)=rr n (abD m A b) m:=by
 have h:∀x∈(rr n (abD m A b) (m+1)).2,x<m:=adn.1 h;show abv n (rr n (abD m A b) m) m=_;have h:∀x∈(abv n (rr n (abD m A b) m) m).2,x<m:=h;unfold abv at h ⊢;split
 ·rename_i hp;rw[fi hp] at h;exact absurd (h m (by simp)) (yz m)
 ·rfl
theorem alD {n m:Nat} {A:Nat->Nat->Rat} {b:Nat->Rat} (h:ajj n m A b=false):(rr n (abD m A b) (m+1)).2=(rr n A m).2++[m]:=by
 have h:¬ ∀x∈(rr n (abD m A b) (m+1)).2,x<m:=λhx=>by rw[adn.2 hx] at h;cases h
 have hj:=(agk n m A λi _=>b i).1;rw[<-akQ] at hj;rw[<-hj];have h:¬ ∀x∈(abv n (rr n (abD m A b) m) m).2,x<m:=h;show(abv n (rr n (abD m A b) m) m).2=_;unfold abv at h ⊢;split
 ·rfl
 ·rename_i hp;rw[dw hp] at h;exact absurd (λx hx=>aj7 hx) h
theorem akR {n m:Nat} {A:Nat->Nat->Rat} {b:Nat->Rat} (h:ajj n m A b=true):(rr n (abD m A b) (m+1)).2=(rr n A m).2/\∀i j,i<n->j<m->(rr n (abD m A b) (m+1)).1 i j=(rr n A m).1 i j:=by rw[ami h];have hj:=agk n m A λi _=>b i;rw[<-akQ] at hj;exact hj
def ak8 (n m:Nat) (A:Nat->Nat->Rat) (b:Nat->Rat):Nat->Rat:=akD m (rr n (abD m A b) (m+1)).1 (rr n (abD m A b) (m+1)).2
theorem ak9 {n m:Nat} {A:Nat->Nat->Rat} {b:Nat->Rat} (h:ajj n m A b=true):∀i,i<n->apV (λj=>A i j*ak8 n m A b j) m=b i:=λi hi=>
 amQ (aca n (abD m A b) (m+1)) (λ_=>(aeM (m+1)).1) (λk hk e=>yz m (by have h1:∀x∈(rr n (abD m A b) (m+1)).2,x<m:=adn.1 h;have:=h1 _ (Ao hk 0);omega)) i hi
theorem alU {n m:Nat} {A:Nat->Nat->Rat} {b:Nat->Rat} (h:ajj n m A b=false):∃y:Nat->Rat,(∀j,j<m->apV (λi=>y i*A i j) n=0)/\apV (λi=>y i*b i) n=1:=by have e:=alD h;refine akO (k:=(rr n A m).2.length) (by rw[e,c6];simp only[tT,Cq];omega) ?_;rw[e,xU (bX _),Ay];rfl
theorem ahQ {l:List Nat} {k c:Nat} (h:c∈acR l k):c<k/\c ∉ l:=by unfold acR at h;obtain⟨h1,h2⟩:=Ah.1 h;exact⟨tR.1 h1,λhc=>by simp[hc] at h2⟩
theorem agn {F G:Nat->Nat->Rat} {l:List Nat} {n k:Nat} (h:∀i j,i<l.length->j<k->F i j=G i j):abo F l n k=abo G l n k:=by
 unfold abo;refine GZ λc hc=>bE λt _=>?_
 have hc:=(ahQ hc).1;unfold acm;by_cases e:t=c
 ·rw[fi e,fi e]
 ·rw[dw e,dw e];by_cases e2:l.idxOf t<l.length
  ·rw[fi e2,fi e2,h _ _ e2 hc]
  ·rw[dw e2,dw e2]
theorem ahR (F:Nat->Nat->Rat) (l:List Nat) (n k:Nat):(abo F l n k).length=(acR l k).length:=uY ..
def R2 (L:List Int):List Nat:=L.map Int.toNat
theorem ai4 (l:List Nat):R2 (K5 l)=l:=by unfold R2 K5;rw[List.map_map];exact(GZ λx _=>rfl).trans (List.map_id l)
structure aeY (R:LM) (l:List Nat) (n:Nat):Prop where
 inc:∀k k',k<k'->k'<l.length->l.getD k 0<l.getD k' 0
 lt:∀k,k<l.length->l.getD k 0<n
 len:l.length<=R.length
 row:∀k,k<l.length->n<=(R.getD k []).length
 sm:SM BQ R
theorem amC {b:List Rat} {i:Nat} (h:i<b.length):aM9 b (some (i:Int)) (some ((i:Int)+1))=[b.getD i 0]:=by show(b.take ((i:Int)+1).toNat).drop (i:Int).toNat=_;rw[show((i:Int)+1).toNat=i+1 by omega,show(i:Int).toNat=i from rfl,uW h 0,List.drop_left' (by rw[iY];omega)]
def abJ (b:List Rat):LM:=aA b.length λi=>[b.getD i 0]
noncomputable def LX4:List az:=aa5::V9::[]
theorem afQ:bd LX4:=⟨V5,Qc,trivial⟩
def a2J:CF
 | [.k (.list .q) b]=>some (none,.k (.list (.list .q)) (abJ b),[])
 | _=>none
def ala:az:=⟨122,false,a2J⟩
def alE (b:List Rat):bk:=⟨nU,λkey_=>match key_ with
 | 3=>some (⟨Nat,λi=>[(0,.k (.list .q) b),(3,.own 7 0 1),(9,.k (.int .i64) ((b.length:Nat):Int)),(10,.k (.int .i64) ((i:Nat):Int))],
 λi=>[(7,.arr 31 (.list .q) (aA b.length λt=>if t<i then [b.getD t 0] else []))],λ_ i=>i<=b.length,λi=>b.length-i⟩) | _=>none,nR,nU⟩
def akx (b:List Rat):Prop:=b.length<=aB->(0<=(↑b.length:Int)/\(↑b.length:Int)<=(↑b.length:Int)/\(↑b.length:Int)<=(1099511627776:Int))/\(b.length<=aB->∃(x0:Nat),((b
 = b/\(↑b.length:Int)=↑b.length/\(0:Int)=(x0:Int))/\List.map (λ(p:Nat)=>[[]].getD p []) (List.replicate (↑b.length:Int).toNat (0:Nat)) =
 aA b.length λ(t:Nat)=>if t<x0 then [b.getD t 0] else [])/\x0<=b.length/\∀(x:Nat),let u1:=(x:Int)+1;x<=b.length->bif decide ((↑x
 : Int)<↑b.length) then ax u1/\ax u1/\rz b.length (some (x:Int)) (some u1) (some u1)/\(0<=(x:Int)/\(x:Int)<↑(aA b.length λ(t :
 Nat)=>if t<x then [b.getD t 0] else []).length)/\(x:Int).toNat<(aA b.length λ(t:Nat)=>if t<x then [b.getD t 0] else []).length
 /\ ax u1/\∃(x':Nat),((b=b/\(↑b.length:Int)=↑b.length/\(x:Int)+1=↑x')/\(aA b.length λ(t:Nat)=>if t<x then [b.getD t
 (0:Rat)] else []).set (x:Int).toNat (aM9 b (some (x:Int)) (some u1))=aA b.length λ(t:Nat)=>if t<x' then [b.getD t 0] else [])/\x'<=b.length
 /\ b.length-x'<b.length-x else (aA b.length λ(t:Nat)=>if t<x then [b.getD t 0] else [])=abJ b)
theorem ali (b:List Rat):aw LX4 [] (alE b) Tryz.f122 (.k (.list (.list .q)) (abJ b)) [.k (.list .q) b]=akx b:=by kernel_rfl
theorem alj (b:List Rat) (hf:cJ [.k (.list .q) b]):akx b:=by
 unfold akx;intro hL;have Bn:=hL;unfold aB at Bn;refine⟨⟨by omega,by omega,by omega⟩,λ_=>⟨0,⟨⟨rfl,rfl,rfl⟩,?_⟩,ia _,λi hi=>aH (λh=>?_) λh=>?_⟩⟩
 ·exact(List.map_replicate ..).trans ((iO _ _).trans (bE λt _=>(dw (nc t)).symm))
 ·have cw:i<b.length:=by omega
  refine⟨nQ cw hL,nQ cw hL,⟨by omega,by omega,by omega,rfl⟩,by rw[mX];exact idx h,by rw[mX];exact cw,nQ cw hL,i+1,⟨⟨rfl,rfl,rfl⟩,?_⟩,by omega,by omega⟩;rw[show((i:Nat):Int).toNat=i from rfl,mY cw,amC cw];refine bE λt _=>?_;by_cases e:t=i
  ·rw[fi e,fi (by omega),e]
  ·rw[dw e];by_cases e2:t<i
   ·rw[fi e2,fi (by omega)]
   ·rw[dw e2,dw (by omega)]
 ·exact bE λt ht=>fi (by omega)
theorem alk:ah (cfg []) ala:=cf afQ bp Tryz.func122 λa _ _ _ hc hg hf=>by change a2J a=_ at hc;unfold a2J at hc;split at hc<;>cases hc;cases aY (ali _) (alj _ hf);exact⟨rfl,by kernel_rfl,_,by assumption⟩
def ab6 (M N:LM):LM:=aA M.length λi=>M.getD i []++N.getD i []
def a2L:CF
 | [.k (.list (.list .q)) M,.k (.list (.list .q)) N]=>some (some (M.length<=N.length/\(∀i,i<M.length->0<(N.getD i []).length)/\∀i,i<M.length->(M.getD i []).length+(N.getD i []).length<=aB),.k (.list (.list .q)) (ab6 M N),[])
 | _=>none
def afj:az:=⟨121,false,a2L⟩
def ago (M N:LM):bk:=⟨λkey_=>match key_ with | 5=>12 | _=>0,λkey_=>match key_ with
 | 3=>some (⟨Nat,λi=>[(1,.k (.list (.list .q)) N),(5,.own 10 0 1),(11,.k (.list (.list .q)) M),(12,.k (.int .i64) ((M.length:Nat):Int)),(13,.k (.int .i64) ((i:Nat):Int))],
 λi=>[(10,.bc 31 40 .q (bh M.length i) ([]::aA i λt=>M.getD t []++N.getD t []))],λ_ i=>i<=M.length,λi=>M.length-i⟩) | _=>none,nR,nU⟩
def aeg (M N:LM):Prop:=M.length<=aB->(0<=(↑M.length:Int)/\(↑M.length:Int)<=(↑M.length:Int)/\(↑M.length:Int)<=(1099511627776:Int))/\(M.length<=aB->∃(x0:Nat),((N
 = N/\M=M/\(↑M.length:Int)=↑M.length/\(0:Int)=(x0:Int))/\List.replicate (↑M.length:Int).toNat (0:Nat)=bh M.length x0/\[[]]=[]::aA x0
 λ(t:Nat)=>M.getD t []++N.getD t [])/\x0<=M.length/\∀(x:Nat),let u3:=N.getD (x:Int).toNat [];
 let u2:=[]::aA x λ(t:Nat)=>M.getD t []++N.getD t [];let u1:=M.getD (x:Int).toNat [];x<=M.length->bif decide ((x:Int)<↑M.length) then
 (0<=(x:Int)/\(x:Int)<↑M.length)/\rz u1.length none (some (↑u1.length:Int)) (some (↑u1.length:Int))/\(0<=(x:Int)/\(x:Int)
 < (↑N.length:Int))/\((0:Nat)<u3.length/\(aM9 u1 none (some (↑u1.length:Int))).length+u3.length<=aB)/\(0<=(x:Int)/\(x:Int)<↑(bh
 M.length x).length)/\((x:Int).toNat<(bh M.length x).length/\u2.length<(u2++[(aM9 u1 none (some (↑u1.length:Int))).append u3]).length)/\ax ((↑x :
 Int)+(1:Int))/\∃(x':Nat),((N=N/\M=M/\(↑M.length:Int)=↑M.length/\(x:Int)+1=↑x')/\(bh M.length x).set (x:Int).toNat
 (u2.length)=bh M.length x'/\u2++[(aM9 u1 none (some (↑u1.length:Int))).append u3]=[]::aA x' λ(t:Nat)=>M.getD t []++N.getD t [])/\x'<=M.length /\
 M.length-x'<M.length-x else List.map (λ(p:Nat)=>u2.getD p []) (bh M.length x)=ab6 M N)
theorem afR (M N:LM):aw LX4 [] (ago M N) Tryz.f121 (.k (.list (.list .q)) (ab6 M N)) [.k (.list (.list .q)) M,.k (.list (.list .q)) N]=aeg M N:=by kernel_rfl
theorem afS (M N:LM) (hg:M.length<=N.length/\(∀i,i<M.length->0<(N.getD i []).length)/\∀i,i<M.length->(M.getD i []).length+(N.getD i []).length<=aB):aeg M N:=by
 obtain⟨h1,h2,h3⟩:=hg;unfold aeg;intro hL;have Bn:=hL;unfold aB at Bn;refine⟨⟨by omega,by omega,by omega⟩,λ_=>⟨0,⟨⟨rfl,rfl,rfl,rfl⟩,x8 _,rfl⟩,ia _,λi hi=>aH (λh=>?_) λh=>?_⟩⟩
 ·have cw:i<M.length:=by omega
  have e:aM9 (M.getD ((i:Nat):Int).toNat []) none (some (((M.getD ((i:Nat):Int).toNat []).length:Nat):Int))=M.getD i []:=qY;rw[e];refine⟨idx h,⟨by omega,by omega,rfl⟩,⟨by omega,by omega⟩,⟨h2 i cw,h3 i cw⟩,by rw[pL];exact idx h,⟨by rw[pL];exact cw,by simp⟩,nQ cw hL,i+1,⟨⟨rfl,rfl,rfl,rfl⟩,?_,?_⟩,by omega,by omega⟩
  ·rw[tT,mX];exact As cw
  ·exact Co (List.cons []) (tI i λt=>M.getD t []++N.getD t []).symm
 ·have e:i=M.length:=by omega
  subst e;unfold bh ab6;rw[sv];exact bE λt ht=>by rw[fi ht,yT,fW ht]
theorem afT:ah (cfg []) afj:=cf afQ bp Tryz.func121 λa _ _ _ hc hg hf=>by change a2L a=_ at hc;unfold a2L at hc;split at hc<;>cases hc;cases aY (afR _ _) (afS _ _ hg);exact⟨rfl,by kernel_rfl,_,by assumption⟩
theorem ac0 {l:List Nat} (inc:∀k k',k<k'->k'<l.length->l.getD k 0<l.getD k' 0) {x c:Nat} (h3:∀k,k<x->l.getD k 0<c) (h4:x<l.length->c<=l.getD x 0):c∈l↔x<l.length/\l.getD x 0=c:=by
 constructor
 ·intro hm;obtain⟨k,hk,e⟩:=ahx hm 0;rcases uZ k x with h | h | h
  ·have:=h3 k h;omega
  ·subst h;exact⟨hk,e⟩
  ·have:=inc x k h hk;have:=h4 (by omega);omega
 ·intro⟨h1,h2⟩;rw[<-h2];exact Ao h1 0
theorem aiG {n:Nat} {F:Nat->Nat->Rat} {l:List Nat} {c:Nat} (inc:∀k k',k<k'->k'<l.length->l.getD k 0<l.getD k' 0) (hc:c ∉ l):aA n (acN l (λk=> -F k c) (λt=>if t=c then 1 else 0) l.length)=aA n (acm F l c):=bE λt _=>by
 rw[aiw (λi j hij hj e=>by have:=inc i j hij hj;omega)];unfold acm;by_cases e:t=c
 ·rw[fi e,dw (λh=>hc (by rw[<-e,<-ado h];exact Ao h 0)),fi e]
 ·rw[dw e,dw e]
theorem ahm {l:List Nat} (inc:∀k k',k<k'->k'<l.length->l.getD k 0<l.getD k' 0):∀k,k<l.length->k<=l.getD k 0
 | 0,_=>ia _
 | k+1,h=>by have:=ahm inc k (by omega);have:=inc k (k+1) (by omega) h;omega
theorem ai7 (F:Nat->Nat->Rat) (l:List Nat) (n k:Nat):(abo F l n k).length<=k:=by rw[ahR];unfold acR;exact j3 (GC _ _) (Hu AA)
def a2M:CF
 | [.agg (.cons (.k (.list (.list .q)) R) (.cons (.k (.list (.int .i64)) L) .nil)),.k (.int .i64) ((n:Nat):Int)]=>some (some (L=K5 (R2 L)/\aeY R (R2 L) n/\n<=aB),.k (.list (.list .q)) (abo (el R) (R2 L) n n),[])
 | _=>none
def afk:az:=⟨123,false,a2M⟩
def agp (R:LM) ( L:List Int) (n:Nat):bk:=⟨nU,λkey_=>match key_ with
 | 4=>some (⟨Nat×Nat,λp=>[(1,.k (.int .i64) ((n:Nat):Int)),(2,.pt 2 0 2 0 0),(5,.own 61 0 1),(6,.k (.int .i64) ((p.2:Nat):Int)),(11,.k (.int .i64) ((n:Nat):Int)),(12,.k (.int .i64) ((p.1:Nat):Int))],
 λp=>[(2,.box 172 (.agg (.cons (.k (.list (.list .q)) R) (.cons (.k (.list (.int .i64)) L) .nil)))),(61,.bc 31 40 .q (aA (abo (el R) (R2 L) n p.1).length λt=>t) (abo (el R) (R2 L) n p.1))],
 λ_ p=>p.1<=n/\p.2<=(R2 L).length/\(∀k,k<p.2->(R2 L).getD k 0<p.1)/\(p.2<(R2 L).length->p.1<=(R2 L).getD p.2 0),λp=>n-p.1⟩)
 | 11=>some (⟨Nat×Nat×Nat,λp=>[(1,.k (.int .i64) ((n:Nat):Int)),(2,.pt 2 0 2 0 0),(5,.own 61 0 1),(6,.k (.int .i64) ((p.2.2:Nat):Int)),(7,.k (.int .i64) ((p.2.1:Nat):Int)),(8,.own 32 0 5),(11,.k (.int .i64) ((n:Nat):Int)),(12,.k (.int .i64) ((p.2.1:Nat):Int)),(38,.k (.list (.int .i64)) L),(39,.k (.int .i64) ((L.length:Nat):Int)),(40,.k (.int .i64) ((p.1:Nat):Int))],
 λp=>[(2,.box 172 (.agg (.cons (.k (.list (.list .q)) R) (.cons (.k (.list (.int .i64)) L) .nil)))),(32,.arr 40 .q (aA n (acN (R2 L) (λk=> -el R k p.2.1) (λt=>if t=p.2.1 then 1 else 0) p.1))),(61,.bc 31 40 .q (aA (abo (el R) (R2 L) n p.2.1).length λt=>t) (abo (el R) (R2 L) n p.2.1))],
 λq p=>p.2=q.2/\p.1<=L.length,λp=>L.length-p.1⟩) | _=>none,nR,nU⟩
def aco (R:LM) ( L:List Int) (n:Nat) (x:Nat×Nat):Prop:=∃(x0:Nat×Nat×Nat),(((n:Int)=↑n/\(↑x.2:Int)=↑x0.2.2/\(↑x.1:Int)=↑x0.2.1/\(n:Int)=↑n/\(↑x.1:Int)=(↑x0.2.1
 : Int)/\L=L/\(↑L.length:Int)=↑L.length/\(0:Int)=(↑x0.1:Int))/\(R=R/\L=L)/\(List.replicate (n:Int).toNat (0:Rat)).set (↑x.1:Int).toNat
 (↑(1:Int):Rat)=aA n (acN (R2 L) (λ(k:Nat)=> -el R k x0.2.1) (λ(t:Nat)=>if t=x0.2.1 then (1:Rat) else (0:Rat)) x0.1)/\((aA (abo (el R) (R2
 L) n x.1).length λ(t:Nat)=>t)=aA (abo (el R) (R2 L) n x0.2.1).length λ(t:Nat)=>t)/\abo (el R) (R2 L) n x.1=abo (el R) (R2 L) n x0.2.1)/\(x0.2 =
 x0.2/\x0.1<=L.length)/\∀(y1:Nat×Nat×Nat),let u3:=(↑y1.2.1:Int);let u2:=aA (abo (el R) (R2 L) n y1.2.1).length λ(t:Nat)=>t;
 let u1:=acN (R2 L) (λ(k:Nat)=> -el R k y1.2.1) (λ(t:Nat)=>if t=y1.2.1 then (1:Rat) else (0:Rat)) y1.1;y1.2=x0.2/\y1.1<=L.length->bif decide
 ((↑y1.1:Int)<↑L.length) then (0<=(↑y1.1:Int)/\(↑y1.1:Int)<↑L.length)/\(0<=(↑y1.1:Int)/\(↑y1.1:Int)<↑R.length)
 /\ ((0:Int)<=u3/\u3<(↑(R.getD (↑y1.1:Int).toNat []).length:Int))/\Sq BQ ((R.getD (↑y1.1:Int).toNat []).getD u3.toNat 0)/\((0:Int)<=L.getD (↑y1.1 :
 Int).toNat 0/\L.getD (↑y1.1:Int).toNat 0<(↑(aA n u1).length:Int))/\(L.getD (↑y1.1:Int).toNat 0).toNat<(aA n u1).length/\ax
 ((↑y1.1:Int)+1)/\∃(x':Nat×Nat×Nat),(((n:Int)=↑n/\(↑y1.2.2:Int)=↑x'.2.2/\u3=(↑x'.2.1:Int)/\(n:Int)=↑n /\
 u3=(↑x'.2.1:Int)/\L=L/\(↑L.length:Int)=↑L.length/\(↑y1.1:Int)+1=↑x'.1)/\(R=R/\L=L)/\(aA n u1).set (L.getD (↑y1.1 :
 Int).toNat 0).toNat (-(R.getD (↑y1.1:Int).toNat []).getD u3.toNat 0)=aA n (acN (R2 L) (λ(k:Nat)=> -el R k x'.2.1) (λ(t:Nat)=>if t =
 x'.2.1 then (1:Rat) else (0:Rat)) x'.1)/\(u2=aA (abo (el R) (R2 L) n x'.2.1).length λ(t:Nat)=>t)/\abo (el R) (R2 L) n y1.2.1=abo (el R) (R2 L) n
 x'.2.1)/\(x'.2=x0.2/\x'.1<=L.length)/\L.length-x'.1<L.length-y1.1 else (u2.length+1<=aB/\((abo (el R) (R2 L) n y1.2.1).length)<(abo (el R)
 (R2 L) n y1.2.1++[aA n u1]).length)/\ax (u3+(1:Int))/\∃(x':Nat×Nat),(((n:Int)=↑n/\(↑y1.2.2:Int)=↑x'.2/\(n:Int)=(↑n :
 Int)/\u3+(1:Int)=(↑x'.1:Int))/\(R=R/\L=L)/\(u2++[((abo (el R) (R2 L) n y1.2.1).length)]=aA (abo (el R) (R2 L) n x'.1).length λ(t:Nat)=>t)
 /\ abo (el R) (R2 L) n y1.2.1++[aA n u1]=abo (el R) (R2 L) n x'.1)/\(x'.1<=n/\x'.2<=(R2 L).length/\(∀(k:Nat),k<x'.2->(R2 L).getD k 0<x'.1)
 /\ (x'.2<(R2 L).length->x'.1<=(R2 L).getD x'.2 0))/\n-x'.1<n-x.1
def aei (R:LM) ( L:List Int) (n:Nat):Prop:=
 let t1:=List.replicate (n:Int).toNat (0:Rat);
 ∃(x0:Nat×Nat),(((n:Int)=↑n/\(0:Int)=(↑x0.2:Int)/\(n:Int)=↑n/\(0:Int)=(↑x0.1:Int))/\(R=R/\L=L)/\(aA (abo (el R)
 (R2 L) n x0.1).length λ(t:Nat)=>t)=[]/\abo (el R) (R2 L) n x0.1=[])/\(x0.1<=n/\x0.2<=(R2 L).length/\(∀(k:Nat),k<x0.2->(R2 L).getD k 0
 < x0.1)/\(x0.2<(R2 L).length->x0.1<=(R2 L).getD x0.2 0))/\∀(x:Nat×Nat),x.1<=n/\x.2<=(R2 L).length/\(∀(k:Nat),k<x.2->(R2 L).getD k (0 :
 Nat)<x.1)/\(x.2<(R2 L).length->x.1<=(R2 L).getD x.2 0)->bif decide ((↑x.1:Int)<↑n) then L.length<=(9223372036854775807:Nat)->bif decide
 ((↑x.2:Int)<↑L.length) then (0<=(↑x.2:Int)/\(↑x.2:Int)<↑L.length)/\bif decide (L.getD (↑x.2:Int).toNat 0=(↑x.1:Int))
 then ax ((↑x.2:Int)+1)/\ax ((↑x.1:Int)+1)/\∃(x':Nat×Nat),(((n:Int)=↑n/\(↑x.2:Int)+1=↑x'.2/\(↑n :
 Int)=(n:Int)/\(↑x.1:Int)+1=↑x'.1)/\(R=R/\L=L)/\((aA (abo (el R) (R2 L) n x.1).length λ(t:Nat)=>t)=aA (abo (el R) (R2 L)
 n x'.1).length λ(t:Nat)=>t)/\abo (el R) (R2 L) n x.1=abo (el R) (R2 L) n x'.1)/\(x'.1<=n/\x'.2<=(R2 L).length/\(∀(k:Nat),k<x'.2->(R2 L).getD k
 (0:Nat)<x'.1)/\(x'.2<(R2 L).length->x'.1<=(R2 L).getD x'.2 0))/\n-x'.1<n-x.1 else (0<=(n:Int)/\(n:Int)<=(n:Int)/\(n:Int)
 <= (1099511627776:Int))/\ax (1:Int)/\(0<=(↑x.1:Int)/\(↑x.1:Int)<↑t1.length)/\(↑x.1:Int).toNat<t1.length/\(L.length <=
 (9223372036854775807:Nat)->aco R L n x) else (0<=(n:Int)/\(n:Int)<=(n:Int)/\(n:Int)<=(1099511627776:Int))/\ax (1:Int)/\((0 :
 Int)<=(↑x.1:Int)/\(↑x.1:Int)<↑t1.length)/\(↑x.1:Int).toNat<t1.length/\(L.length<=(9223372036854775807:Nat)->aco R L n x) else List.map
 (λ(p:Nat)=>(abo (el R) (R2 L) n x.1).getD p []) (aA (abo (el R) (R2 L) n x.1).length λ(t:Nat)=>t)=abo (el R) (R2 L) n n
theorem afU (R:LM) ( L:List Int) (n:Nat):aw LX4 [] (agp R L n) Tryz.f123 (.k (.list (.list .q)) (abo (el R) (R2 L) n n)) [.agg (.cons (.k (.list (.list .q)) R) (.cons (.k (.list (.int .i64)) L) .nil)),.k (.int .i64) ((n:Nat):Int)]=aei R L n:=by kernel_rfl
theorem afW (R:LM) ( L:List Int) (n:Nat) (hg:L=K5 (R2 L)/\aeY R (R2 L) n/\n<=aB):aei R L n:=by
 obtain⟨eL,hK,hn⟩:=hg;generalize hl:R2 L=l at *
 subst eL;have eC:(K5 l).length=l.length:=adq l;have hn':=hn;unfold aB at hn';have inc:=hK.inc;have body:∀c x,c<n->c ∉ l->x<=l.length->(∀k,k<x->l.getD k 0<c)->(x<l.length->c<=l.getD x 0)->aco R (K5 l) n (c,x):=λc x hc hm h2 h3 h4=>by
  unfold aco;rw[hl];refine⟨(0,c,x),⟨⟨rfl,rfl,rfl,rfl,rfl,rfl,rfl,rfl⟩,⟨rfl,rfl⟩,?_,rfl,rfl⟩,⟨rfl,ia _⟩,λ⟨i,c2,x2⟩ ⟨e,hi⟩=>?_⟩
  ·show(List.replicate n (0:Rat)).set c 1=aA n λt=>if t=c then 1 else 0
   rw[iO,mY hc]
  ·obtain⟨rfl,rfl⟩:c2=c/\x2=x:=⟨Co Prod.fst e,Co Prod.snd e⟩
   dsimp only at hi ⊢;rw[eC] at hi ⊢;refine aH (λh=>?_) λh=>?_
   ·have cw:i<l.length:=by omega
    have hr:=hK.row i cw;have aU:=hK.lt i cw;have hle:=hK.len;have e1:=afF cw;have e3:((K5 l).getD i 0).toNat=l.getD i 0:=by omega
    have iU:=ahm inc i cw;refine⟨idx h,⟨by omega,by omega⟩,⟨by omega,by show(c2:Int)<(((R.getD i []).length:Nat):Int);omega⟩,hK.sm i c2,⟨by show(0:Int)<=(K5 l).getD i 0;omega,by rw[mX];show(K5 l).getD i 0<(n:Int);omega⟩,by rw[mX];show((K5 l).getD i 0).toNat<n;omega,by unfold ax;omega,(i+1,c2,x2),⟨⟨rfl,rfl,rfl,rfl,rfl,rfl,rfl,rfl⟩,⟨rfl,rfl⟩,?_,rfl,rfl⟩,⟨rfl,cw⟩,by show _-(i+1)<_-i;omega⟩;show(aA n _).set ((K5 l).getD i 0).toNat _=_;rw[e3];exact mY aU
   ·have e:i=l.length:=by omega
    subst e;have hk:=ai7 (el R) l n c2;have eK:abo (el R) l n (c2+1)=abo (el R) l n c2++[aA n (acm (el R) l c2)]:=by rw[aeS,dw hm]
    rw[aiG inc hm];refine⟨⟨by rw[mX];unfold aB;omega,by simp⟩,by unfold ax;omega,(c2+1,x2),⟨⟨rfl,rfl,rfl,rfl⟩,⟨rfl,rfl⟩,?_,eK.symm⟩,⟨hc,h2,λk hk=>by have:=h3 k hk;omega,λh=>?_⟩,by show _-(c2+1)<_-c2;omega⟩
    ·show _=aA (abo (el R) l n (c2+1)).length λt=>t;rw[eK,c6];exact(tI _ λt=>t).symm
    ·have h5:=h4 h;have h6:l.getD x2 0≠c2:=λe=>hm ((ac0 inc h3 h4).2 ⟨h,e⟩);show c2+1<=l.getD x2 0;omega
 unfold aei;dsimp only;rw[hl,eC];refine⟨(0,0),⟨⟨rfl,rfl,rfl,rfl⟩,⟨rfl,rfl⟩,rfl,rfl⟩,⟨ia _,ia _,λk hk=>absurd hk (nc k),λ_=>ia _⟩,λ⟨c,x⟩ ⟨h1,h2,h3,h4⟩=>?_⟩;dsimp only at h1 h2 h3 h4 ⊢;have main:c<n->c ∉ l->((0:Int)<=(n:Int)/\(n:Int)<=(n:Int)/\(n:Int)<=1099511627776)/\ax 1/\((0:Int)<=(c:Int)/\(c:Int)<((List.replicate ((n:Nat):Int).toNat (0:Rat)).length:Nat))/\((c:Nat):Int).toNat<(List.replicate ((n:Nat):Int).toNat (0:Rat)).length/\(l.length<=9223372036854775807->aco R (K5 l) n (c,x)):=λhc hm=>⟨⟨by omega,by omega,by omega⟩,by unfold ax;omega,by rw[tO];exact⟨by omega,by show(c:Int)<((n:Nat):Int);omega⟩,by rw[tO];exact hc,λ_=>body c x hc hm h2 h3 h4⟩
 refine aH (λh hLL=>?_) λh=>?_
 ·have hc:c<n:=by omega
  refine aH (λh5=>⟨idx h5,?_⟩) λh5=>main hc λhm=>h5 (by have:=((ac0 inc h3 h4).1 hm).1;omega);have hx:x<l.length:=by omega
  have e1:=afF hx;refine aH (λh6=>?_) λh6=>main hc λhm=>h6 (by have:=((ac0 inc h3 h4).1 hm).2;show(K5 l).getD x 0=(c:Int);omega);have h6:l.getD x 0=c:=by have h6:(K5 l).getD x 0=(c:Int):=h6;omega
  have hm:c∈l:=(ac0 inc h3 h4).2 ⟨hx,h6⟩;have eK:abo (el R) l n (c+1)=abo (el R) l n c:=by rw[aeS,fi hm]
  refine⟨by unfold ax;omega,by unfold ax;omega,(c+1,x+1),⟨⟨rfl,rfl,rfl,rfl⟩,⟨rfl,rfl⟩,by show _=aA (abo (el R) l n (c+1)).length _;rw[eK],eK.symm⟩,⟨hc,hx,λk hk=>?_,λh7=>?_⟩,by show _-(c+1)<_-c;omega⟩
  ·rcases aV k x with h8 | h8
   ·have:=h3 k h8;show _<c+1;omega
   ·have:k=x:=by have:k<x+1:=hk;omega
    subst this;show _<c+1;omega
  ·have:=inc x (x+1) (yi x) h7;show c+1<=l.getD (x+1) 0;omega
 ·have e:c=n:=by omega
  subst e;rw[sv];exact(vt [] rfl λi _=>rfl).symm
theorem afX:ah (cfg []) afk:=cf afQ bp Tryz.func123 λa _ _ _ hc hg hf=>by change a2M a=_ at hc;unfold a2M at hc;split at hc<;>cases hc;cases aY (afU _ _ _) (afW _ _ _ hg);exact⟨rfl,by kernel_rfl,_,by assumption⟩
def aeE (M:LM):LM:=abo (ab2 M).1 (ab2 M).2 (abY M) (abY M)
theorem ai8 {M:LM} (hg:acu M):aeY (aaf M) (ab2 M).2 (abY M):=by have h:=aca M.length (el M) (abY M);obtain⟨s,h1,h2,h3⟩:=hg;refine⟨h.inc,h.lt,by unfold aaf;rw[ab9];exact bX _,λk hk=>?_,SM.mk (λi j _ _=>(afy h1 (λi j=>h2.el i j) (abY M) i j).le h3) BQ1⟩;unfold aaf;rw[na hk,mX];exact bX _
theorem agq {A:LM} {n c:Nat} {F:Nat->Nat->Rat} (hn:A.length=n) (hc:abY A=c) (h:∀i j,i<n->j<c->el A i j=F i j):(ab2 A).2=(rr n F c).2/\∀i j,i<n->j<c->(ab2 A).1 i j=(rr n F c).1 i j:=by unfold ab2;rw[hn,hc];exact aed h c (bX c)
theorem afl {b:Bool} {α:Type} {x y:α} (h:b=true):cond b x y=x:=by rw[h];rfl
noncomputable def LX5:List az:=aeb::afk::ala::afj::ya::LX4
theorem ahn:bd LX5:=⟨ads,afX,alk,afT,uz,afQ⟩
def aah (M:LM) (b:List Rat):LM:=ab6 M (abJ b)
def okS (M:LM) (b:List Rat):Bool:=bif aj M then decide (M.length=b.length) else false
def abL (M:LM) (b:List Rat):Bool:=ajj M.length (al M) (el M) (λi=>b.getD i 0)
def aer (M:LM) (b:List Rat):List Rat:=aA (al M) (ak8 M.length (al M) (el M) (λi=>b.getD i 0))
def aj4 (M:LM) (b:List Rat):Prop:=∃s,1<=s/\SM s M/\SL s b/\s*5^(al M+1)<=BQ
def acU (M:LM) (b:List Rat):List Rat:=bif okS M b then bif abL M b then aer M b else [] else []
def adl (M:LM) (b:List Rat):LM:=bif okS M b then bif abL M b then aeE M else [] else []
def acV (M:LM) (b:List Rat):Int:=bif okS M b then bif abL M b then 0 else 7 else 5
theorem akS {M:LM} {b:List Rat} (hl:M.length=b.length) {i:Nat} (hi:i<M.length):(aah M b).getD i []=M.getD i []++[b.getD i 0]:=by unfold aah ab6 abJ;rw[fW hi,fW (by omega)]
structure ap5 (M:LM) (b:List Rat):Prop where
 len:(aah M b).length=M.length
 abY:abY (aah M b)=al M+1
 right:aj (aah M b)=true
 el:∀i j,i<M.length->j<al M+1->AM.el (aah M b) i j=abD (al M) (AM.el M) (λi=>b.getD i 0) i j
theorem ajQ {M:LM} {b:List Rat} (hR:aj M=true) (hl:M.length=b.length):ap5 M b:=by
 obtain⟨m1,m2,m3⟩:=ba hR;have e0:(aah M b).length=M.length:=mX ..;have er:∀i,i<M.length->((aah M b).getD i []).length=al M+1:=λi hi=>by rw[akS hl hi,c6,m3 i hi];rfl
 refine⟨e0,er 0 m1,nM (by omega) (by rw[er 0 m1];omega) λj hj=>by rw[er j (by omega),er 0 m1],λi j hi hj=>?_⟩;show((aah M b).getD i []).getD j 0=_;rw[akS hl hi];unfold abD;by_cases h:j<al M
 ·rw[fi h,xT (by rw[m3 i hi];exact h)];rfl
 ·rw[dw h,xU (by rw[m3 i hi];omega),m3 i hi,show j-al M=0 by omega];rfl
theorem akG {M:LM} {b:List Rat} {s:Nat} (hl:M.length=b.length) (h1:1<=s) (h2:SM s M) (h3:SL s b):SM s (aah M b):=λi j=>by
 rcases aV i M.length with hi | hi
 ·rw[akS hl hi];rcases aV j (M.getD i []).length with hj | hj
  ·rw[xT hj];exact h2 i j
  ·rw[xU hj]
   cases j-(M.getD i []).length with
   | zero=>exact h3 i
   | succ k=>exact Sq.zero s h1
 ·have e:(aah M b).getD i []=[]:=mZ (by unfold aah ab6;rw[mX];exact hi) [];rw[e];exact Sq.zero s h1
theorem adu {s m:Nat} (h1:1<=s) (h:s*5^m<=BQ):m<=20000000000:=by have h4:=Nat.lt_pow_self (n:=m) (a:=5) (by omega);have h5:1*5^m<=s*5^m:=cM _ h1;unfold BQ at h;omega
theorem alV (n m:Nat) (A:Nat->Nat->Rat) (b:Nat->Rat):(0<(rr n (abD m A b) (m+1)).2.length/\(rr n (abD m A b) (m+1)).2.getD ((rr n (abD m A b) (m+1)).2.length-1) 0=m)↔ajj n m A b=false:=by
 constructor
 ·intro⟨h1,h2⟩
  cases h:ajj n m A b with
  | false=>rfl
  | true=>have:=adn.1 h _ (Ao (xs:=(rr n (abD m A b) (m+1)).2) (i:=(rr n (abD m A b) (m+1)).2.length-1) (by omega) 0);omega
 ·intro h;rw[alD h,c6,xU (by simp)];exact⟨by simp,by simp⟩
theorem alb {M:LM} {b:List Rat} (h:okS M b=false):acU M b=[]/\adl M b=[]/\5=acV M b:=by unfold acU adl acV;rw[h];exact⟨rfl,rfl,rfl⟩
theorem ajT {M:LM} {b:List Rat} (h:okS M b=true) (h2:abL M b=false):acU M b=[]/\adl M b=[]/\7=acV M b:=by unfold acU adl acV;rw[h,h2];exact⟨rfl,rfl,rfl⟩
theorem akT {M:LM} {b:List Rat} (h:okS M b=true) (h2:abL M b=true):acU M b=aer M b/\adl M b=aeE M/\acV M b=0:=by unfold acU adl acV;rw[h,h2];exact⟨rfl,rfl,rfl⟩
def a3F:CF
 | [.k (.list (.list .q)) M,.k (.list .q) b]=>some (some (okS M b=true->aj4 M b),T3 (.k (.list .q) (acU M b)) (.k (.list (.list .q)) (adl M b)) (.k (.int .i64) (acV M b)),[])
 | _=>none
def alF:az:=⟨69,false,a3F⟩
def alW (M:LM) (b:List Rat):bk:=⟨nU,λkey_=>match key_ with
 | 10=>some (⟨Nat,λi=>[(4,.own 51 0 5),(7,.k (.int .i64) ((al M:Nat):Int)),(8,.pt 8 0 2 0 0),(53,.k (.list (.int .i64)) (abp (aah M b))),(54,.k (.int .i64) (((abp (aah M b)).length:Nat):Int)),(55,.k (.int .i64) ((i:Nat):Int))],
 λi=>[(8,.box 172 (.agg (.cons (.k (.list (.list .q)) (aaf (aah M b))) (.cons (.k (.list (.int .i64)) (abp (aah M b))) .nil)))),(51,.arr 40 .q (aA (al M) (acN (ab2 (aah M b)).2 (λk=>(ab2 (aah M b)).1 k (al M)) (λ_=>0) i)))],λ_ i=>i<=(ab2 (aah M b)).2.length,λi=>(ab2 (aah M b)).2.length-i⟩) | _=>none,nR,nU⟩
def ajz (M:LM) (b:List Rat) : Prop:=
 let t1:=abp (aah M b);
 let t2:=ab2 (aah M b);
 let t3:=ab6 M (abJ b);
 ∃(x0:Nat),(((↑(M.getD (Int.toNat (0:Int)) []).length:Int)=(↑(al M):Int)/\(bif aj t3 then abp t3 else [])=abp (aah M b)/\(↑(bif aj t3
 then abp t3 else []).length:Int)=(↑t1.length:Int)/\(0:Int)=(x0:Int))/\(bz (aj t3) (aaf t3)=aaf (aah M b)/\(bif aj t3 then abp
 t3 else [])=abp (aah M b))/\List.replicate (↑(M.getD (Int.toNat (0:Int)) []).length:Int).toNat (0:Rat)=aA (al M) (acN t2.snd (λ(k:Nat)=>t2.fst
 k (al M)) (λ(x:Nat)=>(0:Rat)) x0))/\x0<=t2.snd.length/\∀(x:Nat),
 let u1:=acN t2.snd (λ(k:Nat)=>t2.fst k (al M)) (λ(x:Nat)=>(0:Rat)) x;x<=t2.snd.length->bif decide ((x:Int)<↑t1.length) then ((0 :
 Int)<=(x:Int)/\(x:Int)<↑t1.length)/\(0<=(x:Int)/\(x:Int)<↑(aaf (aah M b)).length)/\(0<=(↑(al M):Int) /\
 (↑(al M):Int)<(↑((aaf (aah M b)).getD (x:Int).toNat []).length:Int))/\((0:Int)<=t1.getD (x:Int).toNat 0/\t1.getD (x:Int).toNat (0 :
 Int)<(↑(aA (al M) u1).length:Int))/\(t1.getD (x:Int).toNat 0).toNat<(aA (al M) u1).length/\ax ((x:Int)+1)/\∃(x':Nat),
 (((↑(al M):Int)=(↑(al M):Int)/\abp (aah M b)=abp (aah M b)/\(↑t1.length:Int)=↑t1.length/\(x:Int)+1=↑x') /\
 (aaf (aah M b)=aaf (aah M b)/\abp (aah M b)=abp (aah M b))/\(aA (al M) u1).set (t1.getD (x:Int).toNat 0).toNat (((aaf (aah M
 b)).getD (x:Int).toNat []).getD (↑(al M):Int).toNat 0)=aA (al M) (acN t2.snd (λ(k:Nat)=>t2.fst k (al M)) (λ(x:Nat)=>(0:Rat))
 x'))/\x'<=t2.snd.length/\t2.snd.length-x'<t2.snd.length-x else (abp (aah M b)=K5 (R2 t1)/\aeY (aaf (aah M b)) (R2 t1) (al M)/\al M <=
 aB)/\aA (al M) u1=acU M b/\abo (el (aaf (aah M b))) (R2 t1) (al M) (al M)=adl M b/\(0:Int)=acV M b
def akU (M:LM) (b:List Rat):Prop:=
 let t1:=(↑(M.getD (Int.toNat (0:Int)) []).length:Int);
 let t2:=ab6 M (abJ b);
 bif !aj M then acU M b=[]/\adl M b=[]/\(5:Int)=acV M b else M.length<=aB->b.length<=aB->bif !decide ((↑M.length:Int)=↑b.length)
 then acU M b=[]/\adl M b=[]/\(5:Int)=acV M b else ((0:Int)<=(0:Int)/\(0:Int)<(↑M.length:Int))/\((M.getD (Int.toNat (0:Int)) []).length <=
 aB->(M.length<=(abJ b).length/\(∀(i:Nat),i<M.length->(0:Nat)<((abJ b).getD i []).length)/\∀(i:Nat),i<M.length->(M.getD i []).length+((abJ
 b).getD i []).length<=aB)/\(aj t2=true->acu t2)/\((bif aj t2 then abp t2 else []).length<=(9223372036854775807:Nat)->bif decide ((0:Int) <
 (↑(bif aj t2 then abp t2 else []).length:Int)) then ax ((↑(bif aj t2 then abp t2 else []).length:Int)-(1:Int))/\(0<=(↑(bif aj t2
 then abp t2 else []).length:Int)-(1:Int)/\(↑(bif aj t2 then abp t2 else []).length:Int)-(1:Int)<(↑(bif aj t2 then abp t2 else
 []).length:Int))/\bif decide ((bif aj t2 then abp t2 else []).getD ((↑(bif aj t2 then abp t2 else []).length:Int)-(1:Int)).toNat 0=t1)
 then acU M b=[]/\adl M b=[]/\(7:Int)=acV M b else ((0:Int)<=t1/\t1<=t1/\t1<=(1099511627776:Int))/\((bif aj t2 then abp t2 else
 []).length<=(9223372036854775807:Nat)->ajz M b) else ((0:Int)<=t1/\t1<=t1/\t1<=(1099511627776:Int))/\((bif aj t2 then abp t2 else []).length <=
 (9223372036854775807:Nat)->ajz M b)))
theorem alG (M:LM) (b:List Rat):aw LX5 [] (alW M b) Tryz.f69 (T3 (.k (.list .q) (acU M b)) (.k (.list (.list .q)) (adl M b)) (.k (.int .i64) (acV M b))) [.k (.list (.list .q)) M,.k (.list .q) b]=akU M b:=by kernel_rfl
theorem alH (M:LM) (b:List Rat) (hg:okS M b=true->aj4 M b):akU M b:=by
 unfold akU;dsimp only
 cases hR:aj M with
 | false=>exact alb (by unfold okS;rw[hR];rfl)
 | true=>
  intro hL1 n5;refine dP (λh=>alb (by unfold okS;rw[hR,nS (by omega)];rfl)) λh=>?_;have hl:M.length=b.length:=by omega
  have ok:okS M b=true:=by unfold okS;rw[hR,tC hl];rfl
  obtain⟨s,s1,s2,s3,s4⟩:=hg ok;have hA:=ajQ hR hl;obtain⟨m1,m2,m3⟩:=ba hR;have uI:acu (aah M b):=⟨s,s1,akG hl s1 s2 s3,by have:=hA.abY;show s*5^abY (aah M b)<=BQ;rw[this];exact s4⟩
  have hmL:=adu s1 s4;have E1:(bif aj (ab6 M (abJ b)) then abp (ab6 M (abJ b)) else [])=abp (aah M b):=afl hA.right;have E2:bz (aj (ab6 M (abJ b))) (aaf (ab6 M (abJ b)))=aaf (aah M b):=afl hA.right;have hK:=ai8 uI;obtain⟨r1,r2⟩:=agq hA.len hA.abY hA.el;have hln:=hK.len;have yS:(ab2 (aah M b)).2.length<=M.length:=by rw[r1];exact acG _ _ _
  have key:=alV M.length (al M) (el M) (λi=>b.getD i 0);rw[<-r1] at key;have eO:(abp (aah M b)).length=(ab2 (aah M b)).2.length:=adq _;have eT:R2 (abp (aah M b))=(ab2 (aah M b)).2:=ai4 _;have uN:(ab2 (aah M b)).2.length<=20000000000:=by
   rcases gA (ab2 (aah M b)).2.length with h0 | h0
   ·omega
   ·have:=ahm hK.inc _ (show(ab2 (aah M b)).2.length-1<(ab2 (aah M b)).2.length by omega);have h5:=hK.lt _ (show(ab2 (aah M b)).2.length-1<(ab2 (aah M b)).2.length by omega);rw[hA.abY] at h5;omega
  have body:abL M b=true->ajz M b:=λhS=>by
   have aU:∀k,k<(ab2 (aah M b)).2.length->(ab2 (aah M b)).2.getD k 0<al M:=λk hk=>by have h6:=adn.1 hS;rw[<-r1] at h6;exact h6 _ (Ao hk 0)
   obtain⟨v1,v2⟩:=akR hS;obtain⟨x1,x2,x3⟩:=akT ok hS;unfold ajz;dsimp only;rw[E1,E2,eO];refine⟨0,⟨⟨rfl,rfl,rfl,rfl⟩,⟨rfl,rfl⟩,iO _ _⟩,ia _,λi hi=>aH (λh=>?_) λh=>?_⟩
   ·have cw:i<(ab2 (aah M b)).2.length:=by omega
    have e1:(abp (aah M b)).getD i 0=_:=afF cw;have e3:((abp (aah M b)).getD i 0).toNat=(ab2 (aah M b)).2.getD i 0:=by omega
    have h7:=aU i cw;have h8:=ahm hK.inc i cw;have h9:=hK.row i cw;rw[hA.abY] at h9;refine⟨idx h,⟨by omega,by omega⟩,⟨by omega,by show(al M:Int)<((((aaf (aah M b)).getD i []).length:Nat):Int);omega⟩,⟨by show(0:Int)<=(abp (aah M b)).getD i 0;omega,by rw[mX];show(abp (aah M b)).getD i 0<(al M:Int);omega⟩,by rw[mX];show((abp (aah M b)).getD i 0).toNat<al M;omega,by unfold ax;omega,i+1,⟨⟨rfl,rfl,rfl,rfl⟩,⟨rfl,rfl⟩,?_⟩,cw,by omega⟩;show(aA (al M) _).set ((abp (aah M b)).getD i 0).toNat (el (aaf (aah M b)) i (al M))=_;rw[e3,show el (aaf (aah M b)) i (al M)=(ab2 (aah M b)).1 i (al M) from Ny cw (by rw[hA.abY];omega)];exact mY h7
   ·have e:i=(ab2 (aah M b)).2.length:=by omega
    subst e;rw[eT,x1,x2,x3];refine⟨⟨rfl,⟨hK.inc,aU,hK.len,λk hk=>by have:=hK.row k hk;rw[hA.abY] at this;omega,hK.sm⟩,by unfold aB;omega⟩,bE λt ht=>?_,?_,rfl⟩
    ·rw[aiw (λi j hij hj e=>by have:=hK.inc i j hij hj;omega)];unfold ak8 akD;rw[<-r1];by_cases h:(ab2 (aah M b)).2.idxOf t<(ab2 (aah M b)).2.length
     ·rw[fi h,fi h,r2 _ _ (by omega) (by omega)]
     ·rw[dw h,dw h]
    ·unfold aeE;rw[show(ab2 M).2=(ab2 (aah M b)).2 from (r1.trans v1).symm];exact agn λi j hi hj=>by show el (aaf (aah M b)) i j=(rr M.length (el M) (al M)).1 i j;rw[show el (aaf (aah M b)) i j=(ab2 (aah M b)).1 i j from Ny hi (by rw[hA.abY];have:j<al M:=hj;omega),r2 _ _ (by omega) (by have:j<al M:=hj;omega),v2 _ _ (by omega) hj]
  rw[E1];refine⟨⟨by omega,by omega⟩,λhLc=>⟨⟨by unfold abJ;rw[mX];omega,λi hi=>by unfold abJ;rw[fW (by omega)];exact Nat.one_pos,λi hi=>by unfold abJ;rw[fW (by omega),m3 i hi];show al M+1<=aB;unfold aB;omega⟩,λ_=>uI,λhLL=>?_⟩⟩;have amF:abL M b=true->((0:Int)<=(((M.getD (Int.toNat 0) []).length:Nat):Int)/\(((M.getD (Int.toNat 0) []).length:Nat):Int)<=(((M.getD (Int.toNat 0) []).length:Nat):Int)/\(((M.getD (Int.toNat 0) []).length:Nat):Int)<=1099511627776)/\((abp (aah M b)).length<=9223372036854775807->ajz M b):=λhS=>⟨⟨by omega,by omega,by show((al M:Nat):Int)<=_;omega⟩,λ_=>body hS⟩
  have yes:¬(0<(ab2 (aah M b)).2.length/\(ab2 (aah M b)).2.getD ((ab2 (aah M b)).2.length-1) 0=al M)->abL M b=true:=λh=>by
   cases h2:abL M b with
   | true=>rfl
   | false=>exact absurd (key.2 h2) h
  refine aH (λh1=>?_) λh1=>amF (yes λh2=>h1 (by omega));have hp:0<(ab2 (aah M b)).2.length:=by omega
  have e1:(abp (aah M b)).getD ((ab2 (aah M b)).2.length-1) 0=_:=afF (show(ab2 (aah M b)).2.length-1<_ by omega);have e2:(((abp (aah M b)).length:Nat)-1:Int).toNat=(ab2 (aah M b)).2.length-1:=by omega
  rw[e2];refine⟨by unfold ax;omega,⟨by omega,by omega⟩,aH (λh3=>?_) λh3=>amF (yes λh2=>h3 ?_)⟩
  ·refine ajT ok (key.1 ⟨hp,?_⟩);have h3:(abp (aah M b)).getD ((ab2 (aah M b)).2.length-1) 0=((al M:Nat):Int):=h3;omega
  ·show(abp (aah M b)).getD ((ab2 (aah M b)).2.length-1) 0=((al M:Nat):Int)
   omega
theorem akE:ah (cfg []) alF:=cf ahn bp Tryz.func69 λa _ _ _ hc hg hf=>by change a3F a=_ at hc;unfold a3F at hc;split at hc<;>cases hc;cases aY (alG _ _) (alH _ _ hg);exact⟨rfl,by kernel_rfl,_,by assumption⟩
theorem ap8 {f:Nat->Rat}:∀{n:Nat},(∀i,i<n->0<=f i)->0<=apV f n
 | 0,_=>yU
 | n+1,h=>by have h1:=ap8 (n:=n) λi hi=>h i (by omega);have h2:=h n (by omega);show 0<=apV f n+f n;grind
theorem ap6 {f:Nat->Rat}:∀{n:Nat},(∀i,i<n->0<=f i)->apV f n=0->∀i,i<n->f i=0
 | 0,_,_,i,hi=>absurd hi (nc i)
 | n+1,h,e,i,hi=>by
  have h1:=ap8 (n:=n) λi hi=>h i (by omega);have h2:=h n (by omega);have e:apV f n+f n=0:=e;rcases aV i n with hin | hin
  ·exact ap6 (λi hi=>h i (by omega)) (by grind) i hin
  ·rw[show i=n by omega];grind
theorem aq7 (a:Rat):0<=a*a:=by
 rcases Rat.le_total (a:=0) (b:=a) with h | h
 ·exact G9 h h
 ·have:0 <= -a * -a:=G9 (by grind) (by grind);grind
theorem ar9 {a:Rat} (h:a*a=0):a=0:=by rcases Gj.1 h with h | h<;>exact h
theorem aqT (F:Nat->Nat->Rat) (c v:Nat->Rat) (n m:Nat):apV (λi=>c i*apV (λj=>F i j*v j) m) n=apV (λj=>v j*apV (λi=>F i j*c i) n) m:=by have e1:apV (λi=>c i*apV (λj=>F i j*v j) m) n=apV (λi=>apV (λj=>c i*(F i j*v j)) m) n:=uv λi _=>(abC _ _ m).symm;rw[e1,akN];exact uv λj _=>(uv λi _=>by grind).trans (abC (v j) (λi=>F i j*c i) n)
theorem aq8 {n m:Nat} {F:Nat->Nat->Rat} (h:(rr n F m).2.length=m) {v:Nat->Rat} (hv:Ker n m F v) {j:Nat} (hj:j<m):v j=0:=by
 have hr:=aca n F m;have hf:=ak7 n F m;have hm:∀j,j<m->j∈(rr n F m).2:=λj hj=>FX λhn=>by
  have:j∈acR (rr n F m).2 m:=by unfold acR;rw[Ah];exact⟨tR.2 hj,by simpa using hn⟩
  have:=Gl this;omega
 have hk:=(aeM m).2 hv;obtain⟨k,Dy,Dz⟩:=ahx (hm j hj) 0;have h0:=hk k (dz Dy hr.len);rw[ace (a:=j) hj λi hi ay=>by obtain⟨k',axt,auj⟩:=ahx (hm i hi) 0;have h1:=hr.one k' k axt (dz Dy hr.len);rw[auj,dw (λe=>ay (by rw[<-auj,<-Dz,e]))] at h1;rw[h1,Dc]] at h0
 have h1:=hr.one k k Dy (dz Dy hr.len);rw[Dz,fi rfl] at h1;rw[h1,Gb] at h0;exact h0
def atF (w:Nat) (X:Nat->Nat->Rat) (u:Nat->Rat) (i:Nat):Rat:=apV (λj=>u j*X i j) w+u w
def ab5 (w:Nat) (X:Nat->Nat->Rat):Nat->Nat->Rat:=abD w X λ_=>1
theorem aqv {w:Nat} {X:Nat->Nat->Rat} {i j:Nat} (h:j<w):ab5 w X i j=X i j:=fi h
theorem arn {w:Nat} {X:Nat->Nat->Rat} {i:Nat}:ab5 w X i w=1:=dw (yz w)
theorem aqU (w:Nat) (X:Nat->Nat->Rat) (u:Nat->Rat) (i:Nat):apV (λj=>ab5 w X i j*u j) (w+1)=atF w X u i:=by show apV _ w+ab5 w X i w*u w=_;rw[arn,Gb];exact Co (· + u w) (uv λj hj=>by rw[aqv hj,GF])
def rdF (w:Nat) (r:Rat) (j k:Nat):Rat:=if j=k/\j<w then r else 0
def akl (n w:Nat) (X:Nat->Nat->Rat) (r:Rat) (j k:Nat):Rat:=rdF w r j k+apV (λi=>ab5 w X i j*ab5 w X i k) n
def ao3 (n w:Nat) (X:Nat->Nat->Rat) (y:Nat->Rat) (j:Nat):Rat:=apV (λi=>ab5 w X i j*y i) n
theorem at6 {w:Nat} {r:Rat} {j:Nat} (hj:j<w+1) (v:Nat->Rat):apV (λk=>rdF w r j k*v k) (w+1)=if j<w then r*v j else 0:=by
 by_cases h:j<w
 ·rw[fi h,ace (a:=j) hj λk _ ay=>by unfold rdF;rw[dw λe=>ay e.1.symm,Dc]];unfold rdF;rw[fi ⟨rfl,h⟩]
 ·rw[dw h];exact acj λk _=>by unfold rdF;rw[dw λe=>h e.2,Dc]
theorem aqw {n w:Nat} {X:Nat->Nat->Rat} {r:Rat} {j:Nat} (hj:j<w+1) (v:Nat->Rat):apV (λk=>akl n w X r j k*v k) (w+1)=(if j<w then r*v j else 0)+apV (λi=>ab5 w X i j*atF w X v i) n:=by
 have e1:apV (λk=>akl n w X r j k*v k) (w+1)=apV (λk=>rdF w r j k*v k+v k*apV (λi=>ab5 w X i k*ab5 w X i j) n) (w+1):=uv λk _=>by unfold akl;rw[uv (f:=λi=>ab5 w X i j*ab5 w X i k) (g:=λi=>ab5 w X i k*ab5 w X i j) λi _=>GF ..];grind
 rw[e1,acw,at6 hj,<-aqT];exact Co _ (uv λi _=>by rw[aqU])
def qdF (n w:Nat) (X:Nat->Nat->Rat) (r:Rat) (v:Nat->Rat):Rat:=r*apV (λj=>v j*v j) w+apV (λi=>atF w X v i*atF w X v i) n
def Nor (n w:Nat) (X:Nat->Nat->Rat) (y:Nat->Rat) (r:Rat) (u:Nat->Rat):Prop:=∀j,j<w+1->apV (λk=>akl n w X r j k*u k) (w+1)=ao3 n w X y j
theorem aua {n w:Nat} {X:Nat->Nat->Rat} {r:Rat} (hr:0<=r) (v:Nat->Rat):0<=qdF n w X r v:=by have h1:0<=r*apV (λj=>v j*v j) w:=G9 hr (ap8 λj _=>aq7 _);have h2:0<=apV (λi=>atF w X v i*atF w X v i) n:=ap8 λj _=>aq7 _;unfold qdF;grind
theorem arI {n w:Nat} {X:Nat->Nat->Rat} {r:Rat} (hr:0<=r) {v:Nat->Rat} (h:qdF n w X r v=0):(r≠0->∀j,j<w->v j=0)/\∀i,i<n->atF w X v i=0:=by
 have h0:0<=apV (λj=>v j*v j) w:=ap8 λj _=>aq7 _;have h1:0<=r*apV (λj=>v j*v j) w:=G9 hr h0;have h2:0<=apV (λi=>atF w X v i*atF w X v i) n:=ap8 λj _=>aq7 _;unfold qdF at h;have h3:r*apV (λj=>v j*v j) w=0:=by grind
 have h4:apV (λi=>atF w X v i*atF w X v i) n=0:=by grind
 refine⟨λay j hj=>?_,λi hi=>ar9 (ap6 (λj _=>aq7 _) h4 i hi)⟩;have h5:apV (λj=>v j*v j) w=0:=(Gj.1 h3).resolve_left ay;exact ar9 (ap6 (λj _=>aq7 _) h5 j hj)
theorem atB {n w:Nat} {X:Nat->Nat->Rat} {r:Rat} {v:Nat->Rat} (h:Ker (w+1) (w+1) (akl n w X r) v):qdF n w X r v=0:=by
 have e:apV (λj=>v j*apV (λk=>akl n w X r j k*v k) (w+1)) (w+1)=0:=acj λj hj=>by rw[h j hj,GD]
 rw[uv (f:=λj=>v j*apV (λk=>akl n w X r j k*v k) (w+1)) (g:=λj=>v j*(if j<w then r*v j else 0)+v j*apV (λi=>ab5 w X i j*atF w X v i) n) λj hj=>by rw[aqw hj];grind,acw,<-aqT] at e;have a1:apV (λj=>v j*(if j<w then r*v j else 0)) (w+1)=r*apV (λj=>v j*v j) w:=by show apV _ w+v w*(if w<w then r*v w else 0)=_;rw[dw (yz w),GD,Hv,<-abC];exact uv λj hj=>by rw[fi hj];grind
 rw[a1,uv (f:=λi=>atF w X v i*apV (λj=>ab5 w X i j*v j) (w+1)) (g:=λi=>atF w X v i*atF w X v i) λi _=>by rw[aqU]] at e;exact e
theorem atC {n w:Nat} {X:Nat->Nat->Rat} {r:Rat} (hr:0<=r) (hf:(rr (w+1) (akl n w X r) (w+1)).2.length=w+1) {v:Nat->Rat} {j:Nat} (hj:j<w+1) (hv:v j≠0):0<qdF n w X r v:=by
 have h1:=aua (n:=n) (w:=w) (X:=X) hr v;refine FX λhn=>hv (aq8 hf (v:=v) (λk hk=>?_) hj);have h2:qdF n w X r v=0:=by grind
 obtain⟨h3,h4⟩:=arI hr h2;rw[aqw hk,acj λi hi=>by rw[h4 i hi,GD],Hv];split
 ·rename_i hkw;by_cases e:r=0
  ·rw[e,Dc]
  ·rw[h3 e k hkw,GD]
 ·rfl
def apW (x:Rat):Rat:=bif decide (x.num<0) then -x else x
def LB:Nat:=40000000
structure Trn (x:List (List Rat)) (y:List Rat):Prop where
 right:aj x=true
 n16:x.length<=16
 w3:al x<=3
 len:x.length=y.length
 sx:SM 256 x
 sy:SL 256 y
def lnF (W:List Rat) (B:Rat) (j:Nat):Rat:=if j<W.length then W.getD j 0 else B
def yF (y:List Rat) (i:Nat):Rat:=y.getD i 0
structure Lin (x:List (List Rat)) (W:List Rat) (B:Rat):Prop where
 len:W.length=al x
 sW:SL LB W
 sB:Sq LB B
def aM (x:List (List Rat)) (r:Rat):List (List Rat):=aG (al x+1) (al x+1) (akl x.length (al x) (el x) r)
def rhL (x:List (List Rat)) (y:List Rat):List Rat:=aA (al x+1) (ao3 x.length (al x) (el x) (yF y))
def aoK (x:List (List Rat)) (y:List Rat) (r:Rat):Bool:=bif abL (aM x r) (rhL x y) then decide ((aeE (aM x r)).length=0) else false
def aga (x:List (List Rat)) (y:List Rat) (r:Rat):List Rat:=bif decide (r.num<0) then [] else bif aoK x y r then (aer (aM x r) (rhL x y)).take (al x) else []
def aci (x:List (List Rat)) (y:List Rat) (r:Rat):Rat:=bif decide (r.num<0) then 0 else bif aoK x y r then (aer (aM x r) (rhL x y)).getD (al x) 0 else 0
def apq (x:List (List Rat)) (y:List Rat) (r:Rat):Int:=bif decide (r.num<0) then 1 else bif aoK x y r then 0 else 9
def apg (i w:Nat) (X:Nat->Nat->Rat) (r:Rat) (j k a b:Nat):Rat:=akl (if a<j\/(a=j/\b<k) then i+1 else i) w X r a b
theorem atD {M:List (List Rat)} {b:List Rat} {s:Nat} (h1:1<=s) (hM:SM s M) (hb:SL s b):SL (s*5^(al M+1)) (aer M b):=by
 have h2:1<=s*5^(al M+1):=At h1 (lN (by omega));refine SL.mk (λt _=>?_) h2;unfold ak8 akD;split
 ·refine afy h1 (λi j=>?_) (al M+1) _ _;unfold abD;split
  ·exact hM i j
  ·exact hb i
 ·exact Sq.zero _ h2
theorem atE {k:Nat} {x:Rat} (h:Sq k x):Sq k (apW x):=by
 unfold apW
 cases decide (x.num<0) with
 | true=>exact h.neg
 | false=>exact h
theorem atG (x:Rat):0<=apW x:=by
 unfold apW;by_cases h:x.num<0
 ·rw[tC h];show 0 <= -x;have h2:¬0<=x:=λh2=>by have:=Ha.2 h2;omega
  grind
 ·rw[nS h];show 0<=x;exact Ha.1 (by omega)
theorem Sq.one {k:Nat} (h:1<=k):Sq k 1:=Sq.int (n:=1) (Sm.one.le h) h
theorem avQ {n i:Nat} (hi:i<n):(bh n n).getD i 0=i+1:=by unfold bh;rw[fW hi,fi hi]
theorem asV {n m i:Nat} {F:Nat->Nat->Rat} (hi:i<n):(bD n m F).getD (i+1) []=aA m (F i):=by unfold bD;rw[yT,na hi]
theorem apI {n m:Nat} {F G:Nat->Nat->Rat} (h:∀a b,a<n->b<m->F a b=G a b):bD n m F=bD n m G:=by unfold bD;rw[jn h]
theorem asW {n m i j:Nat} {F:Nat->Nat->Rat} (hi:i<n) (hj:j<m) (v:Rat):(bD n m F).set (i+1) ((aA m (F i)).set j v)=bD n m λa b=>if a=i/\b=j then v else F a b:=by
 unfold bD aG;rw[List.set_cons_succ,mY hj,mY hi];congr 1;refine bE λa _=>?_
 by_cases e:a=i
 ·rw[fi e];refine bE λb _=>?_;by_cases e2:b=j
  ·exact(fi e2).trans (fi (show a=i/\b=j from ⟨e,e2⟩)).symm
  ·exact(dw e2).trans ((dw (show ¬(a=i/\b=j) from λh=>e2 h.2)).trans (by rw[e])).symm
 ·rw[dw e];exact bE λb _=>(dw (show ¬(a=i/\b=j) from λh=>e h.1)).symm
theorem asA (n w:Nat) (X:Nat->Nat->Rat) (r:Rat) (a b:Nat):akl n w X r a b+ab5 w X n a*ab5 w X n b=akl (n+1) w X r a b:=Rat.add_assoc ..
theorem asB (i w:Nat) (X:Nat->Nat->Rat) (r:Rat) (a b:Nat):apg i w X r 0 0 a b=akl i w X r a b:=by unfold apg;rw[dw (by omega)]
theorem as9 {i w:Nat} {X:Nat->Nat->Rat} {r:Rat} {j m a b:Nat} (hb:b<m):apg i w X r j m a b=apg i w X r (j+1) 0 a b:=by
 unfold apg;by_cases h:a<j\/(a=j/\b<m)
 ·rw[fi h,fi (by omega)]
 ·rw[dw h,dw (by omega)]
theorem ata {i w:Nat} {X:Nat->Nat->Rat} {r:Rat} {m a b:Nat} (ha:a<m):apg i w X r m 0 a b=akl (i+1) w X r a b:=by unfold apg;rw[fi (.inl ha)]
theorem asC (i w:Nat) (X:Nat->Nat->Rat) (r:Rat) (j k a b:Nat):(if a=j/\b=k then apg i w X r j k j k+ab5 w X i j*ab5 w X i k else apg i w X r j k a b)=apg i w X r j (k+1) a b:=by
 by_cases e:a=j/\b=k
 ·obtain⟨rfl,rfl⟩:=e;rw[fi ⟨rfl,rfl⟩];unfold apg;rw[dw (by omega),fi (by omega)];exact asA ..
 ·rw[dw e];unfold apg;by_cases h:a<j\/(a=j/\b<k)
  ·rw[fi h,fi (by omega)]
  ·rw[dw h,dw (by omega)]
section
variable {x:List (List Rat)} {y:List Rat} {r:Rat} {W:List Rat} {B:Rat}
theorem Trn.facts (h:Trn x y):0<x.length/\al x≠0/\∀i,i<x.length->(x.getD i []).length=al x:=ba h.right
theorem Trn.Y (h:Trn x y) (i:Nat):Sq 256 (yF y i):=h.sy i
theorem Trn.ful (h:Trn x y) (w i j:Nat):Sq 256 (ab5 w (el x) i j):=by
 unfold ab5 abD;split
 ·exact h.sx i j
 ·exact Sq.one (by omega)
theorem avR (hr:Sq 256 r) (w a b:Nat):Sq 256 (rdF w r a b):=by
 unfold rdF;split
 ·exact hr
 ·exact Sq.zero _ (by omega)
theorem Trn.nor (h:Trn x y) (hr:Sq 256 r) {i:Nat} (hi:i<=16) (w a b:Nat):Sq 9000 (akl i w (el x) r a b):=by unfold akl;exact((avR hr w a b).add (Sq.apV λt _=>(h.ful w t a).mul (h.ful w t b))).le (by have:=eJ (256+256+1) hi;omega)
theorem Trn.rhs (h:Trn x y) {i:Nat} (hi:i<=16) (w a:Nat):Sq 9000 (ao3 i w (el x) (yF y) a):=by unfold ao3;exact(Sq.apV λt _=>(h.ful w t a).mul (h.Y t)).le (by have:=eJ (256+256+1) hi;omega)
theorem aqE:(aM x r).length=al x+1:=ab9 ..
theorem apy:al (aM x r)=al x+1:=by unfold al aM;rw[na (by omega),mX];rfl
theorem atI:(rhL x y).length=al x+1:=mX ..
theorem atb:aj (aM x r)=true:=Lh (by omega) (by omega) _
theorem atJ:okS (aM x r) (rhL x y)=true:=by unfold okS;rw[atb,aqE,atI];exact tC rfl
theorem Trn.apc (h:Trn x y) (hr:Sq 256 r):aj4 (aM x r) (rhL x y):=by refine⟨9000,by omega,SM.mk (λi j _ _=>h.nor hr h.n16 _ i j) (by omega),SL.mk (λi _=>h.rhs h.n16 _ i) (by omega),?_⟩;rw[apy];exact j3 (eJ 9000 (iS (n:=5) (by omega) (show al x+1+1<=5 by have:=h.w3;omega))) (by decide)
theorem Trn.aer (h:Trn x y) (hr:Sq 256 r):SL 30000000 (aer (aM x r) (rhL x y)):=by refine(atD (s:=9000) (by omega) (SM.mk (λi j _ _=>h.nor hr h.n16 _ i j) (by omega)) (SL.mk (λi _=>h.rhs h.n16 _ i) (by omega))).le ?_;show 9000*5^(al (aM x r)+1)<=30000000;rw[apy];exact j3 (eJ 9000 (iS (n:=5) (by omega) (show al x+1+1<=5 by have:=h.w3;omega))) (by decide)
theorem arJ (M:List (List Rat)) (b:List Rat):(aer M b).length=al M:=mX ..
end
noncomputable def LU0:List az:=sj::JA::[]
theorem arR:bd LU0:=⟨nG,zV,trivial⟩
def a6w:List AV->Option (Option Prop×AV×List Ob)
 | [.k .q x]=>some (some (Sq BQ x),.k .q (apW x),[])
 | _=>none
def atK:az:=⟨13,false,a6w⟩
def atL (x:Rat):bk:=⟨λkey_=>match key_ with | 1=>6 | _=>0,nL,nR,nU⟩
def asD (x:Rat):Prop:=Sm BN x.num.natAbs/\On (bW false x.num.natAbs) (d1 x.den)/\j6 (bW false x.num.natAbs) (d1 x.den)=apW x
theorem atc (x:Rat):aw LU0 [] (atL x) Tryz.f13 (.k .q (apW x)) [.k .q x]=asD x:=by kernel_rfl
theorem atd (x:Rat) (hg:Sq BQ x):asD x:=by
 unfold asD apW;refine⟨hg.num.le (by unfold BQ BN;omega),?_⟩;have key:∀z:Rat,On z.num (d1 z.den):=λz=>by
  by_cases e:z.den=1
  ·exact .inl (FH.2 e)
  ·refine .inr ?_;unfold d1;rw[dw e];exact⟨e,z.reduced⟩
 by_cases h:x.num<0
 ·rw[tC h,show bW false x.num.natAbs=(-x).num from (by rw[Rat.neg_num];show((x.num.natAbs:Nat):Int)=_;omega)];exact⟨key (-x),ZL (-x)⟩
 ·rw[nS h,show bW false x.num.natAbs=x.num from (by show((x.num.natAbs:Nat):Int)=_;omega)];exact⟨key x,ZL x⟩
theorem ate:ah (cfg []) atK:=cf arR bp Tryz.func13 λa _ _ _ hc hg hf=>by change a6w a=_ at hc;unfold a6w at hc;split at hc<;>cases hc;cases aY (atc _) (atd _ hg);exact⟨rfl,by kernel_rfl,_,by assumption⟩
def a03:List AV->Option (Option Prop×AV×List Ob)
 | [.k (.int .i64) n]=>some (some (0<=n/\n<=1000),.own 0 0 1,[.bc 31 40 .q (bh n.toNat n.toNat) (bD n.toNat n.toNat λ_ _=>0)])
 | _=>none
def arK:az:=⟨68,false,a03⟩
def asc (n:Int):bk:=⟨nU,λkey_=>match key_ with
 | 3=>some (⟨Nat,λi=>[(0,.k (.int .i64) n),(3,.own 6 0 1),(7,.k (.int .i64) n),(8,.k (.int .i64) ((i:Nat):Int))],
 λi=>[(6,.bc 31 40 .q (bh n.toNat i) (bD i n.toNat λ_ _=>0))],λ_ i=>i<=n.toNat,λi=>n.toNat-i⟩) | _=>none,nR,nU⟩
def arb (n:Int):Prop:=((0:Int)<=n/\n<=n/\n<=(1099511627776:Int))/\∃(x0:Nat),((n=n/\n=n/\(0:Int)=(x0:Int))/\List.replicate n.toNat (0:Nat)=bh n.toNat x0/\[[]]
 = bD x0 n.toNat λ(x y1:Nat)=>(0:Rat))/\x0<=n.toNat/\∀(x:Nat),let u1:=bD x n.toNat λ(x y1:Nat)=>(0:Rat);x<=n.toNat->bif decide ((↑x :
 Int)<n) then ((0:Int)<=n/\n<=n/\n<=(1099511627776:Int))/\(0<=(x:Int)/\(x:Int)<↑(bh n.toNat x).length)/\((x:Int).toNat<(bh
 n.toNat x).length/\u1.length<(u1++[List.replicate n.toNat (0:Rat)]).length)/\ax ((x:Int)+1)/\∃(x':Nat),((n=n/\n=n/\(x:Int)+(1 :
 Int)=(x':Int))/\(bh n.toNat x).set (x:Int).toNat (u1.length)=bh n.toNat x'/\u1++[List.replicate n.toNat (0:Rat)]=bD x' n.toNat λ(x y1:Nat)
 =>(0:Rat))/\x'<=n.toNat/\n.toNat-x'<n.toNat-x else bh n.toNat x=bh n.toNat n.toNat/\u1=bD n.toNat n.toNat λ(x y1:Nat)=>(0:Rat)
theorem arS (n:Int):awp (cfg LU0 []) (asc n) Tryz.f68.ntmps (Tryz.f68.body.getD .skip) (jj Tryz.f68.results.toList (.own 0 0 1) 6 (.bc 31 40 .q (bh n.toNat n.toNat) (bD n.toNat n.toNat λ_ _=>0))) ⟨apL 0 [.k (.int .i64) n],[]⟩=arb n:=by kernel_rfl
theorem arT (n:Int) (hg:0<=n/\n<=1000):arb n:=by
 obtain⟨h1,h2⟩:=hg;obtain⟨n,rfl⟩:=uA h1;unfold arb;dsimp only;rw[show((n:Nat):Int).toNat=n from rfl];refine⟨⟨by omega,by omega,by omega⟩,0,⟨⟨rfl,rfl,rfl⟩,x8 n,rfl⟩,ia _,λi hi=>aH (λh=>?_) λh=>?_⟩
 ·have cw:i<n:=by omega
  refine⟨⟨by omega,by omega,by omega⟩,⟨by omega,by rw[pL];omega⟩,⟨by rw[pL];exact cw,by simp⟩,by unfold ax;omega,i+1,⟨⟨rfl,rfl,rfl⟩,?_,?_⟩,by omega,by omega⟩
  ·rw[K3];exact As cw
  ·unfold bD aG;rw[tI,iO,Ce]
 ·rw[show i=n by omega];exact⟨rfl,rfl⟩
theorem arU:ah (cfg []) arK:=oY arR bp Tryz.func68 (by kernel_rfl) (by kernel_rfl) rfl λargs g r hn hc hg hf=>by
 replace hc:a03 args=some (g,r,hn):=hc;unfold a03 at hc;split at hc
 ·cases hc;have hv:=arT _ hg
  cases aY (arS _) hv;exact⟨by kernel_rfl,_,6,_,rfl,rfl,rfl,by assumption⟩
 ·cases hc
noncomputable def LU1:List az:=ya::Nj::xK::xM::aa5::[]
theorem arV:bd LU1:=⟨uz,J0,pI,pJ,V5,trivial⟩
def a05:List AV->Option (Option Prop×AV×List Ob)
 | [.k (.list (.list .q)) x,.k (.list .q) y]=>some (some (Trn x y),.k .bool true,[])
 | _=>none
def arL:az:=⟨67,false,a05⟩
def asi (x:List (List Rat)) (y:List Rat):bk:=⟨nU,nL,nR,nU⟩
def arc (x:List (List Rat)) (y:List Rat):Prop:=bif aj x then x.length<=aB->bif decide ((↑x.length:Int)<=(300:Int)) then ((0:Int)<=(0:Int)/\(0:Int)<(↑x.length:Int))/\((x.getD (Int.toNat (0 :
 Int)) []).length<=aB->bif decide ((↑(x.getD (Int.toNat (0:Int)) []).length:Int)<=(20:Int)) then x.length<=aB->y.length<=aB->decide ((↑x.length:Int) =
 (↑y.length:Int))=true else false=true) else false=true else false=true
theorem arW (x:List (List Rat)) (y:List Rat):aw LU1 [] (asi x y) Tryz.f67 (.k .bool true) [.k (.list (.list .q)) x,.k (.list .q) y]=arc x y:=by kernel_rfl
theorem arX (x:List (List Rat)) (y:List Rat) (hg:Trn x y):arc x y:=by obtain⟨m1,m2,m3⟩:=hg.facts;have h1:=hg.n16;have h2:=hg.w3;unfold arc;rw[hg.right,fh];exact λ_=>aH (λ_=>⟨⟨by omega,by omega⟩,λ_=>aH (λ_ _ _=>tC (by have:=hg.len;omega)) λh=>absurd (show((al x:Nat):Int)<=20 by omega) h⟩) λh=>absurd (by omega) h
theorem arY:ah (cfg []) arL:=cf arV bp Tryz.func67 λa _ _ _ hc hg hf=>by change a05 a=_ at hc;unfold a05 at hc;split at hc<;>cases hc;cases aY (arW _ _) (arX _ _ hg);exact⟨rfl,by kernel_rfl,_,by assumption⟩
noncomputable def LU2:List az:=arL::LU1
theorem asX:bd LU2:=⟨arY,arV⟩
noncomputable def LU3:List az:=LU2
theorem arZ:bd LU3:=asX
noncomputable def LU4:List az:=arK::alF::LU3
theorem aug:bd LU4:=⟨arU,akE,arZ⟩
def a6x:List AV->Option (Option Prop×AV×List Ob)
 | [.k (.list (.list .q)) x,.k (.list .q) y,.k .q r]=>some (some (Trn x y/\Sq 256 r),T2 (.agg (.cons (.k (.list .q) (aga x y r)) (.cons (.k .q (aci x y r)) .nil))) (.k (.int .i64) (apq x y r)),[])
 | _=>none
def asJ:az:=⟨20,false,a6x⟩
def atQ (x:List (List Rat)) (y:List Rat) (r:Rat):bk:=⟨λkey_=>match key_ with | 6=>7 | 10=>6 | 15=>6 | 22=>16 | 24=>12 | 30=>8 | _=>0,λkey_=>match key_ with
 | 8=>some (⟨Nat,λi=>[(0,.k (.list (.list .q)) x),(1,.k (.list .q) y),(5,.pt 5 0 5 0 0),(6,.pt 6 0 6 0 0),(8,.k (.int .i64) ((al x:Nat):Int)),(9,.own 37 0 1),(10,.own 40 0 5),(41,.k (.int .i64) ((al x:Nat):Int)),(42,.k (.int .i64) ((i:Nat):Int))],
 λi=>[(5,.box 40 (.k .q r)),(6,.box 49 (.agg (.cons .dv (.cons (.k .q (0:Rat)) .nil)))),(37,.bc 31 40 .q (bh (al x+1) (al x+1)) (bD (al x+1) (al x+1) (rdF i r))),(40,.arr 40 .q (aA (al x+1) λ_=>0))],
 λ_ i=>i<=al x,λi=>al x-i⟩)
 | 13=>some (⟨Nat,λi=>[(1,.k (.list .q) y),(6,.pt 6 0 6 0 0),(8,.k (.int .i64) ((al x:Nat):Int)),(9,.own 37 0 1),(10,.own 40 0 5),(53,.k (.list (.list .q)) x),(54,.k (.int .i64) ((x.length:Nat):Int)),(55,.k (.int .i64) ((i:Nat):Int))],
 λi=>[(6,.box 49 (.agg (.cons .dv (.cons (.k .q (0:Rat)) .nil)))),(37,.bc 31 40 .q (bh (al x+1) (al x+1)) (bD (al x+1) (al x+1) (akl i (al x) (el x) r))),(40,.arr 40 .q (aA (al x+1) (ao3 i (al x) (el x) (yF y))))],
 λ_ i=>i<=x.length,λi=>x.length-i⟩)
 | 17=>some (⟨Nat×Nat,λp=>[(1,.k (.list .q) y),(6,.pt 6 0 6 0 0),(8,.k (.int .i64) ((al x:Nat):Int)),(9,.own 37 0 1),(10,.own 40 0 5),(12,.k (.int .i64) ((p.2:Nat):Int)),(14,.own 66 0 5),(53,.k (.list (.list .q)) x),(54,.k (.int .i64) ((x.length:Nat):Int)),(55,.k (.int .i64) ((p.2:Nat):Int)),(67,.own 66 0 5),(68,.k (.int .i64) ((al x+1:Nat):Int)),(69,.k (.int .i64) ((p.1:Nat):Int))],
 λp=>[(6,.box 49 (.agg (.cons .dv (.cons (.k .q (0:Rat)) .nil)))),(37,.bc 31 40 .q (bh (al x+1) (al x+1)) (bD (al x+1) (al x+1) (apg p.2 (al x) (el x) r p.1 0))),(40,.arr 40 .q (aA (al x+1) λt=>ao3 (if t<p.1 then p.2+1 else p.2) (al x) (el x) (yF y) t)),(66,.arr 40 .q (aA (al x+1) (ab5 (al x) (el x) p.2)))],
 λq p=>p.2=q.2/\p.1<=al x+1,λp=>al x+1-p.1⟩)
 | 20=>some (⟨Nat×Nat×Nat,λp=>[(1,.k (.list .q) y),(6,.pt 6 0 6 0 0),(8,.k (.int .i64) ((al x:Nat):Int)),(9,.own 37 0 1),(10,.own 40 0 5),(12,.k (.int .i64) ((p.2.2:Nat):Int)),(14,.own 66 0 5),(15,.k (.int .i64) ((p.2.1:Nat):Int)),(16,.pt 16 0 5 0 0),(53,.k (.list (.list .q)) x),(54,.k (.int .i64) ((x.length:Nat):Int)),(55,.k (.int .i64) ((p.2.2:Nat):Int)),(67,.own 66 0 5),(68,.k (.int .i64) ((al x+1:Nat):Int)),(69,.k (.int .i64) ((p.2.1:Nat):Int)),(74,.own 66 0 5),(75,.k (.int .i64) ((al x+1:Nat):Int)),(76,.k (.int .i64) ((p.1:Nat):Int))],
 λp=>[(6,.box 49 (.agg (.cons .dv (.cons (.k .q (0:Rat)) .nil)))),(16,.box 40 (.k .q (ab5 (al x) (el x) p.2.2 p.2.1))),(37,.bc 31 40 .q (bh (al x+1) (al x+1)) (bD (al x+1) (al x+1) (apg p.2.2 (al x) (el x) r p.2.1 p.1))),(40,.arr 40 .q (aA (al x+1) λt=>ao3 (if t<p.2.1 then p.2.2+1 else p.2.2) (al x) (el x) (yF y) t)),(66,.arr 40 .q (aA (al x+1) (ab5 (al x) (el x) p.2.2)))],
 λq p=>p.2=q.2/\p.1<=al x+1,λp=>al x+1-p.1⟩) | _=>none,λkey_=>match key_ with
 | 6=>some (⟨Unit,λ_=>[(0,.k (.list (.list .q)) x),(1,.k (.list .q) y),(5,.pt 5 0 5 0 0),(6,.pt 6 0 6 0 0),(8,.k (.int .i64) ((al x:Nat):Int)),(9,.own 37 0 1),(10,.own 40 0 5)],
 λ_=>[(5,.box 40 (.k .q r)),(6,.box 49 (.agg (.cons .dv (.cons (.k .q (0:Rat)) .nil)))),(37,.bc 31 40 .q (bh (al x+1) (al x+1)) (bD (al x+1) (al x+1) (rdF 0 r))),(40,.arr 40 .q (aA (al x+1) λ_=>0))]⟩) | _=>none,nU⟩
def apk (x:List (List Rat)) (y:List Rat) (r:Rat):Prop:=(0<=(↑(al x):Int)+(1:Int)/\(↑(al x):Int)+(1:Int)<=(↑(al x):Int)+(1:Int)/\(↑(al x):Int)+(1:Int)<=(1099511627776:Int)) /\
 (x=x/\y=y/\(↑(al x):Int)=(↑(al x):Int))/\r=r/\(0:Rat)=(0:Rat)/\(bh ((↑(al x):Int)+(1:Int)).toNat ((↑(al x):Int)+(1 :
 Int)).toNat=bh (al x+1) (al x+1)/\(bD ((↑(al x):Int)+(1:Int)).toNat ((↑(al x):Int)+(1:Int)).toNat λ(x y2:Nat)=>
 (0:Rat))=bD (al x+1) (al x+1) (rdF (0:Nat) r))/\List.replicate ((↑(al x):Int)+(1:Int)).toNat (0:Rat)=aA (al x+(1 :
 Nat)) λ(x:Nat)=>(0:Rat)
def aqy (x:List (List Rat)) (y:List Rat) (r:Rat):Prop:=bh ((↑(al x):Int)+(1:Int)).toNat ((↑(al x):Int)+(1:Int)).toNat=bh (al x+1) (al x+1)/\(bD ((↑(al x):Int)+(1 :
 Int)).toNat ((↑(al x):Int)+(1:Int)).toNat λ(x y2:Nat)=>(0:Rat))=bD (al x+1) (al x+1) (rdF (0:Nat) r)
def aqA (x:List (List Rat)) (y:List Rat) (r:Rat):Prop:=ax ((↑(al x):Int)+(1:Int))/\((0<=(↑(al x):Int)+(1:Int)/\(↑(al x):Int)+(1:Int)<=(1000:Int))/\apk x y r/\apk x y r)/\((0 :
 Int)<=(↑(al x):Int)+(1:Int)/\(↑(al x):Int)+(1:Int)<=(↑(al x):Int)+(1:Int)/\(↑(al x):Int)+(1:Int)<=(1099511627776:Int))/\((0 :
 Int)<=(↑(al x):Int)+(1:Int)/\(↑(al x):Int)+(1:Int)<=(1000:Int))/\(x=x/\y=y/\(↑(al x):Int)=(↑(al x):Int))/\r=r/\(0:Rat) =
 (0:Rat)/\aqy x y r/\List.replicate ((↑(al x):Int)+(1:Int)).toNat (0:Rat)=aA (al x+1) λ(x:Nat)=>(0:Rat)
def aqV (x:List (List Rat)) (y:List Rat) (r:Rat):Prop:=aqA x y r/\(0<=(↑(al x):Int)+(1:Int)/\(↑(al x):Int)+(1:Int)<=(↑(al x):Int)+(1:Int)/\(↑(al x):Int)+(1:Int) <=
 (1099511627776:Int))/\ax ((↑(al x):Int)+(1:Int))/\(0<=(↑(al x):Int)+(1:Int)/\(↑(al x):Int)+(1:Int)<=(1000:Int))/\(x=x/\y
 = y/\(↑(al x):Int)=(↑(al x):Int))/\r=r/\(0:Rat)=(0:Rat)/\aqy x y r/\List.replicate ((↑(al x):Int)+(1:Int)).toNat (0:Rat)=aA
 (al x+1) λ(x:Nat)=>(0:Rat)
def asL (x:List (List Rat)) (y:List Rat) (r:Rat):Prop:=
 let t1:=aA (al x+1) λ(x:Nat)=>(0:Rat);
 Sq BQ r/\bif decide (r.num.sign<0) then (aga x y r=[]/\(0:Rat)=aci x y r)/\(1:Int)=apq x y r else Trn x y/\((0:Int)<=(0:Int)/\(0:Int) <
 (↑x.length:Int))/\((al x)<=aB->∃(y1:Unit),(((ax ((↑(al x):Int)+(1:Int))/\((0<=(↑(al x):Int)+(1:Int)/\(↑(al x):Int)+(1 :
 Int)<=(1000:Int))/\((ax ((↑(al x):Int)+(1:Int))/\apk x y r/\apk x y r)/\ax ((↑(al x):Int)+(1:Int))/\apk x y r)/\ax ((↑(al x) :
 Int)+(1:Int))/\apk x y r)/\((0<=(↑(al x):Int)+(1:Int)/\(↑(al x):Int)+(1:Int)<=(1000:Int))/\(ax ((↑(al x):Int)+(1:Int))
 /\ apk x y r/\apk x y r)/\ax ((↑(al x):Int)+(1:Int))/\apk x y r)/\aqA x y r)/\(ax ((↑(al x):Int)+(1:Int))/\((0<=(↑(al x)
 : Int)+(1:Int)/\(↑(al x):Int)+(1:Int)<=(1000:Int))/\(ax ((↑(al x):Int)+(1:Int))/\apk x y r/\apk x y r)/\ax ((↑(al x):Int)+(1
 : Int))/\apk x y r)/\aqA x y r)/\ax ((↑(al x):Int)+(1:Int))/\aqV x y r)/\((ax ((↑(al x):Int)+(1:Int))/\((0<=(↑(al x) :
 Int)+(1:Int)/\(↑(al x):Int)+(1:Int)<=(1000:Int))/\(ax ((↑(al x):Int)+(1:Int))/\apk x y r/\apk x y r)/\ax ((↑(al x):Int)+(1 :
 Int))/\apk x y r)/\aqA x y r)/\ax ((↑(al x):Int)+(1:Int))/\aqV x y r)/\ax ((↑(al x):Int)+(1:Int))/\aqV x y r/\((0:Int) <=
 (↑(al x):Int)+(1:Int)/\(↑(al x):Int)+(1:Int)<=(↑(al x):Int)+(1:Int)/\(↑(al x):Int)+(1:Int)<=(1099511627776:Int))/\ax
 ((↑(al x):Int)+(1:Int))/\(0<=(↑(al x):Int)+(1:Int)/\(↑(al x):Int)+(1:Int)<=(1000:Int))/\(x=x/\y=y/\(↑(al x):Int) =
 (↑(al x):Int))/\r=r/\(0:Rat)=(0:Rat)/\aqy x y r/\List.replicate ((↑(al x):Int)+(1:Int)).toNat (0:Rat)=aA (al x+1) λ(x :
 Nat)=>(0:Rat))/\∃(x0:Nat),((x=x/\y=y/\(↑(al x):Int)=(↑(al x):Int)/\(↑(al x):Int)=(↑(al x):Int)/\(0:Int)=(x0:Int))/\r=r
 /\ (0:Rat)=(0:Rat)/\(bh (al x+1) (al x+1)=bh (al x+1) (al x+1)/\bD (al x+1) (al x+(1
 : Nat)) (rdF (0:Nat) r)=bD (al x+1) (al x+1) (rdF x0 r))/\t1=aA (al x+1) λ(x:Nat)=>(0:Rat))/\x0<=al x/\∀
 (y2:Nat),y2<=al x->bif decide ((y2:Int)<↑(al x)) then (0<=(y2:Int)/\(y2:Int)<(↑(bh (al x+1) (al x+(1 :
 Nat))).length:Int))/\(y2:Int).toNat<(bh (al x+1) (al x+1)).length/\(((bh (al x+1) (al x+1)).getD (↑y2 :
 Int).toNat 0)<(bD (al x+1) (al x+1) (rdF y2 r)).length/\0<=(y2:Int)/\(y2:Int)<(↑((bD (al x+1)
 (al x+1) (rdF y2 r)).getD (((bh (al x+1) (al x+1)).getD (y2:Int).toNat 0)) []).length:Int))/\((((bh (al x+(1
 : Nat)) (al x+1)).getD (y2:Int).toNat 0))<(bD (al x+1) (al x+1) (rdF y2 r)).length/\(y2:Int).toNat<((bD
 (al x+1) (al x+1) (rdF y2 r)).getD ((((bh (al x+1) (al x+1)).getD (y2:Int).toNat 0))) []).length)/\ax
 ((y2:Int)+1)/\∃(x':Nat),((x=x/\y=y/\(↑(al x):Int)=(↑(al x):Int)/\(↑(al x):Int)=(↑(al x):Int)/\(y2:Int)+1 =
 (x':Int))/\r=r/\(0:Rat)=(0:Rat)/\(bh (al x+1) (al x+1)=bh (al x+1) (al x+1)/\(bD (al x+(1
 : Nat)) (al x+1) (rdF y2 r)).set ((bh (al x+1) (al x+1)).getD (y2:Int).toNat 0) (((bD (al x+1) (al
 x+1) (rdF y2 r)).getD ((bh (al x+1) (al x+1)).getD (y2:Int).toNat 0) []).set (y2:Int).toNat r)=bD (al x+(1 :
 Nat)) (al x+1) (rdF x' r))/\t1=aA (al x+1) λ(x:Nat)=>(0:Rat))/\x'<=al x/\al x-x'<al x-y2 else x.length<=aB->∃
 (x0:Nat),((y=y/\(↑(al x):Int)=(↑(al x):Int)/\x=x/\(↑x.length:Int)=↑x.length/\(0:Int)=(x0:Int))/\(0:Rat)=(0:Rat)/\(bh
 (al x+1) (al x+1)=bh (al x+1) (al x+1)/\bD (al x+1) (al x+1) (rdF y2 r)=bD
 (al x+1) (al x+1) (akl x0 (al x) (el x) r))/\t1=aA (al x+1) (ao3 x0 (al x) (el x) (yF y)))/\x0<=x.length/\∀(y3 :
 Nat),let u9:=aM9 (x.getD (y3:Int).toNat []) none (some (↑(al x):Int));let u5:=aA (al x+1) (ao3 y3 (al x) (el x) (yF y));
 let u1:=List.map (λ(p:Nat)=>(bD (al x+1) (al x+1) (akl y3 (al x) (el x) r)).getD p []) (bh (al x+1) (al x+1));
 y3<=x.length->bif decide ((y3:Int)<↑x.length) then (0<=(y3:Int)/\(y3:Int)<↑x.length)/\rz (x.getD (y3:Int).toNat []).length
 none (some (↑(al x):Int)) (some (↑(al x):Int))/\ax (1:Int)/\((0:Nat)<[(↑(1:Int):Rat)].length/\u9.length+[(↑(1:Int):Rat)].length<=aB) /\
 ((u9.append [(↑(1:Int):Rat)]).length<=aB->∃(x0b:Nat×Nat),((y=y/\(↑(al x):Int)=(↑(al x):Int)/\(y3:Int)=↑x0b.2/\x=x /\
 (↑x.length:Int)=↑x.length/\(y3:Int)=↑x0b.2/\(↑(u9.append [(↑(1:Int):Rat)]).length:Int)=(↑(al x+1):Int)/\(0:Int) =
 (↑x0b.1:Int))/\(0:Rat)=(0:Rat)/\(bh (al x+1) (al x+1)=bh (al x+1) (al x+1)/\bD (al x+(1 :
 Nat)) (al x+1) (akl y3 (al x) (el x) r)=bD (al x+1) (al x+1) (apg x0b.2 (al x) (el x) r x0b.1 (0:Nat)))/\(aA
 (al x+1) (ao3 y3 (al x) (el x) (yF y))=aA (al x+1) λ(t:Nat)=>ao3 (if t<x0b.1 then x0b.2+1 else x0b.2) (al x) (el
 x) (yF y) t)/\u9.append [(↑(1:Int):Rat)]=aA (al x+1) (ab5 (al x) (el x) x0b.2))/\(x0b.2=x0b.2/\x0b.1<=al x+1)/\∀(y4:Nat ×
 Nat),let u10:=aA (al x+1) λ(t:Nat)=>ao3 (if t<y4.1 then y4.2+1 else y4.2) (al x) (el x) (yF y) t;
 let u8:=aA (al x+1) (ab5 (al x) (el x) y4.2);y4.2=x0b.2/\y4.1<=al x+1->bif decide ((↑y4.1:Int)<↑(al x+1))
 then (0<=(↑y4.1:Int)/\(↑y4.1:Int)<↑u8.length)/\(↑y4.1:Int).toNat<u8.length/\(u8.length<=aB->∃(tn:Nat×Nat×Nat),((y=y /\
 (↑(al x):Int)=(↑(al x):Int)/\(↑y4.2:Int)=↑tn.2.2/\(↑y4.1:Int)=↑tn.2.1/\x=x/\(↑x.length:Int)=↑x.length/\(↑y4.2 :
 Int)=(↑tn.2.2:Int)/\(↑(al x+1):Int)=(↑(al x+1):Int)/\(↑y4.1:Int)=↑tn.2.1/\(↑u8.length:Int)=(↑(al x+(1 :
 Nat)):Int)/\(0:Int)=(↑tn.1:Int))/\(0:Rat)=(0:Rat)/\u8.getD (↑y4.1:Int).toNat 0=ab5 (al x) (el x) tn.2.2 tn.2.1/\(bh (al x +
 (1:Nat)) (al x+1)=bh (al x+1) (al x+1)/\bD (al x+1) (al x+1) (apg y4.2 (al x) (el x) r y4.1
 (0:Nat))=bD (al x+1) (al x+1) (apg tn.2.2 (al x) (el x) r tn.2.1 tn.1))/\(u10=aA (al x+1) λ(t:Nat)=>
 ao3 (if t<tn.2.1 then tn.2.2+1 else tn.2.2) (al x) (el x) (yF y) t)/\aA (al x+1) (ab5 (al x) (el x) y4.2)=aA (al x+(1 :
 Nat)) (ab5 (al x) (el x) tn.2.2))/\(tn.2=tn.2/\tn.1<=al x+1)/\∀(y5:Nat×Nat×Nat),let u11:=(↑y5.2.2:Int);
 let u7:=aA (al x+1) (ab5 (al x) (el x) y5.2.2);let u6:=(↑y5.2.1:Int);
 let u4:=aA (al x+1) λ(t:Nat)=>ao3 (if t<y5.2.1 then y5.2.2+1 else y5.2.2) (al x) (el x) (yF y) t;
 let u3:=(bh (al x+1) (al x+1)).getD u6.toNat 0;
 let u2:=bD (al x+1) (al x+1) (apg y5.2.2 (al x) (el x) r y5.2.1 y5.1);y5.2=tn.2/\y5.1<=al x+1->bif decide ((↑y5.1
 : Int)<↑(al x+1)) then (0<=(↑y5.1:Int)/\(↑y5.1:Int)<↑u7.length)/\(↑y5.1:Int).toNat<u7.length/\((0:Int)<=u6/\u6 <
 (↑(bh (al x+1) (al x+1)).length:Int))/\u6.toNat<(bh (al x+1) (al x+1)).length/\((0:Int)<=u6/\u6 <
 (↑(bh (al x+1) (al x+1)).length:Int))/\u6.toNat<(bh (al x+1) (al x+1)).length/\(u3<u2.length/\(0:Int) <=
 (↑y5.1:Int)/\(↑y5.1:Int)<↑(u2.getD u3 []).length)/\(u3<u2.length/\(↑y5.1:Int).toNat<(u2.getD u3 []).length)/\(Sq BQ (ab5 (al x) (el x) y5.2.2
 y5.2.1)/\Sq BQ (u7.getD (↑y5.1:Int).toNat 0))/\(Sq BQ ((u2.getD u3 []).getD (↑y5.1:Int).toNat 0)/\Sq BQ (ab5 (al x) (el x) y5.2.2 y5.2.1 *
 u7.getD (↑y5.1:Int).toNat 0))/\(u3<u2.length/\0<=(↑y5.1:Int)/\(↑y5.1:Int)<↑(u2.getD u3 []).length)/\(u3<u2.length/\(↑y5.1 :
 Int).toNat<(u2.getD u3 []).length)/\ax ((↑y5.1:Int)+1)/\∃(x'b:Nat×Nat×Nat),((y=y/\(↑(al x):Int)=(↑(al x):Int)/\u11=(↑x'b.2.2 :
 Int)/\u6=(↑x'b.2.1:Int)/\x=x/\(↑x.length:Int)=↑x.length/\u11=(↑x'b.2.2:Int)/\(↑(al x+1):Int)=(↑(al x+1):Int) /\
 u6=(↑x'b.2.1:Int)/\(↑(al x+1):Int)=(↑(al x+1):Int)/\(↑y5.1:Int)+1=↑x'b.1)/\(0:Rat)=(0:Rat)/\ab5
 (al x) (el x) y5.2.2 y5.2.1=ab5 (al x) (el x) x'b.2.2 x'b.2.1/\(bh (al x+1) (al x+1)=bh (al x+1) (al x+(1 :
 Nat))/\u2.set u3 ((u2.getD u3 []).set (↑y5.1:Int).toNat ((u2.getD u3 []).getD (↑y5.1:Int).toNat 0+ab5 (al x) (el x) y5.2.2 y5.2.1*u7.getD (↑y5.1 :
 Int).toNat 0))=bD (al x+1) (al x+1) (apg x'b.2.2 (al x) (el x) r x'b.2.1 x'b.1))/\(u4=aA (al x+1) λ(t :
 Nat)=>ao3 (if t<x'b.2.1 then x'b.2.2+1 else x'b.2.2) (al x) (el x) (yF y) t)/\aA (al x+1) (ab5 (al x) (el x) y5.2.2)=aA (al x +
 (1:Nat)) (ab5 (al x) (el x) x'b.2.2))/\(x'b.2=tn.2/\x'b.1<=al x+1)/\al x+1-x'b.1<al x+1-y5.1 else ((0:Int) <=
 u6/\u6<(↑u4.length:Int))/\u6.toNat<u4.length/\((0:Int)<=u11/\u11<(↑y.length:Int))/\(Sq BQ (ab5 (al x) (el x) y5.2.2 y5.2.1)/\Sq BQ (y.getD
 u11.toNat (0:Rat)))/\(Sq BQ (u4.getD u6.toNat 0)/\Sq BQ (ab5 (al x) (el x) y5.2.2 y5.2.1*y.getD u11.toNat 0))/\((0:Int)<=u6/\u6 <
 (↑u4.length:Int))/\u6.toNat<u4.length/\ax (u6+(1:Int))/\∃(x'c:Nat×Nat),((y=y/\(↑(al x):Int)=(↑(al x):Int)/\u11=(↑x'c.2:Int)/\x=x
 /\ (↑x.length:Int)=↑x.length/\u11=(↑x'c.2:Int)/\(↑(al x+1):Int)=(↑(al x+1):Int)/\u6+(1:Int)=(↑x'c.1:Int))/\(0 :
 Rat)=(0:Rat)/\(bh (al x+1) (al x+1)=bh (al x+1) (al x+1)/\bD (al x+1) (al x+(1 :
 Nat)) (apg y5.2.2 (al x) (el x) r y5.2.1 y5.1)=bD (al x+1) (al x+1) (apg x'c.2 (al x) (el x) r x'c.1 (0:Nat)))/\(u4.set u6.toNat
 (u4.getD u6.toNat 0+ab5 (al x) (el x) y5.2.2 y5.2.1*y.getD u11.toNat 0)=aA (al x+1) λ(t:Nat)=>ao3 (if t<x'c.1 then x'c.2
 + (1:Nat) else x'c.2) (al x) (el x) (yF y) t)/\aA (al x+1) (ab5 (al x) (el x) y5.2.2)=aA (al x+1) (ab5 (al x) (el x) x'c.2)) /\
 (x'c.2=x0b.2/\x'c.1<=al x+1)/\al x+1-x'c.1<al x+1-y4.1) else ax ((↑y4.2:Int)+1)/\∃(x':Nat),((y=y /\
 (↑(al x):Int)=(↑(al x):Int)/\x=x/\(↑x.length:Int)=↑x.length/\(↑y4.2:Int)+1=↑x')/\(0:Rat)=(0:Rat)/\(bh (al
 x+1) (al x+1)=bh (al x+1) (al x+1)/\bD (al x+1) (al x+1) (apg y4.2 (al x) (el x) r
 y4.1 (0:Nat))=bD (al x+1) (al x+1) (akl x' (al x) (el x) r))/\u10=aA (al x+1) (ao3 x' (al x) (el x) (yF y))) /\
 x'<=x.length/\x.length-x'<x.length-y3) else (okS u1 u5=true->aj4 u1 u5)/\bif !decide (acV u1 u5=0) then (aga x y r=[]/\(0:Rat)=aci x y
 r)/\(9:Int)=apq x y r else (adl u1 u5).length<=aB->bif decide ((0:Int)<(↑(adl u1 u5).length:Int)) then (aga x y r=[]/\(0:Rat)=aci x y r) /\
 (9:Int)=apq x y r else rz (acU u1 u5).length none (some (↑(al x):Int)) (some (↑(al x):Int))/\(0<=(↑(al x):Int)/\(↑(al x):Int) <
 (↑(acU u1 u5).length:Int))/\(aM9 (acU u1 u5) none (some (↑(al x):Int))=aga x y r/\(acU u1 u5).getD (↑(al x):Int).toNat 0=aci x y r)
 /\ (0:Int)=apq x y r)
theorem atg (x:List (List Rat)) (y:List Rat) (r:Rat):aw LU4 [] (atQ x y r) Tryz.f20 (T2 (.agg (.cons (.k (.list .q) (aga x y r)) (.cons (.k .q (aci x y r)) .nil))) (.k (.int .i64) (apq x y r))) [.k (.list (.list .q)) x,.k (.list .q) y,.k .q r]=asL x y r:=by kernel_rfl
theorem ath (x:List (List Rat)) (y:List Rat) (r:Rat) (hg:Trn x y/\Sq 256 r):asL x y r:=by
 obtain⟨hT,hr⟩:=hg;obtain⟨m1,m2,m3⟩:=hT.facts;have hw:=hT.w3;have hn:=hT.n16;have hl:=hT.len;have hB:(256:Nat)<=BQ:=by unfold BQ;omega
 have hF:∀i j,Sq BQ (ab5 (al x) (el x) i j):=λi j=>(hT.ful _ i j).le hB;have oA:∀{i:Nat},i<al x+1->(bh (al x+1) (al x+1)).getD ((i:Nat):Int).toNat 0=i+1:=fun {i} hi=>avQ hi;have oL:(bh (al x+1) (al x+1)).length=al x+1:=pL _ _;have step:∀(k j i:Nat) (p:Nat×Nat×Nat),p.2=(j,i)->k<al x+1->j<al x+1->i<x.length->True:=λ_ _ _ _ _ _ _ _=>trivial;unfold asL;dsimp only;refine⟨hr.le hB,aH (λh=>?_) λh=>?_⟩
 ·have e:decide (r.num<0)=true:=tC (CS.1 h);unfold aga aci apq;rw[e];exact⟨⟨rfl,rfl⟩,rfl⟩
 have hd:decide (r.num<0)=false:=nS λh2=>h (CS.2 h2);have iW:ax (((al x:Nat):Int)+1):=by unfold ax;omega
 have eN:(((al x:Nat):Int)+1).toNat=al x+1:=by omega
 have rM:(0:Int)<=((al x:Nat):Int)+1/\((al x:Nat):Int)+1<=((al x:Nat):Int)+1/\((al x:Nat):Int)+1<=1099511627776:=⟨by omega,by omega,by omega⟩
 have rB:(0:Int)<=((al x:Nat):Int)+1/\((al x:Nat):Int)+1<=1000:=⟨by omega,by omega⟩
 have c1:aqy x y r:=by unfold aqy;rw[eN];exact⟨rfl,apI λa b _ _=>(dw λe=>nc _ e.2).symm⟩
 have rL:List.replicate (((al x:Nat):Int)+1).toNat (0:Rat)=aA (al x+1) λ_=>0:=by rw[eN];exact iO _ _
 have r0:apk x y r:=⟨rM,⟨rfl,rfl,rfl⟩,rfl,rfl,c1,rL⟩
 have r2:aqA x y r:=⟨iW,⟨rB,r0,r0⟩,rM,rB,⟨rfl,rfl,rfl⟩,rfl,rfl,c1,rL⟩
 have r3:aqV x y r:=⟨r2,rM,iW,rB,⟨rfl,rfl,rfl⟩,rfl,rfl,c1,rL⟩
 refine⟨hT,⟨by omega,by omega⟩,λ_=>⟨(),?_,0,⟨⟨rfl,rfl,rfl,rfl,rfl⟩,rfl,rfl,⟨rfl,rfl⟩,rfl⟩,ia _,λi hi=>aH (λh1=>?_) λh1 _=>?_⟩⟩
 ·simp only[iW,rB,rM,r0,r2,r3,c1,rL,and_self]
 ·have cw:i<al x:=by omega
  rw[oA (by omega),asV (show i<al x+1 by omega),mX,oL,K3];refine⟨⟨by omega,by omega⟩,by show i<_;omega,⟨by omega,by omega,by omega⟩,⟨by omega,by show i<_;omega⟩,by unfold ax;omega,i+1,⟨⟨rfl,rfl,rfl,rfl,rfl⟩,rfl,rfl,⟨rfl,(asW (show i<al x+1 by omega) (show i<al x+1 by omega) r).trans (apI λa b _ _=>?_)⟩,rfl⟩,by omega,by omega⟩;unfold rdF;by_cases e:a=i/\b=i
  ·rw[fi e,fi ⟨by omega,by omega⟩]
  ·rw[dw e];by_cases e2:a=b/\a<i
   ·rw[fi e2,fi ⟨e2.1,by omega⟩]
   ·rw[dw e2,dw (by omega)]
 ·have e:i=al x:=by omega
  subst e;refine⟨0,⟨⟨rfl,rfl,rfl,rfl,rfl⟩,rfl,⟨rfl,apI λa b _ _=>(Hv _).symm⟩,bE λ_ _=>rfl⟩,ia _,λi hi=>aH (λh1=>?_) λh1=>?_⟩
  ·have cw:i<x.length:=by omega
   have ef:(aM9 (x.getD ((i:Nat):Int).toNat []) none (some ((al x:Nat):Int))).append [((1:Int):Rat)]=aA (al x+1) (ab5 (al x) (el x) i):=by
    show(x.getD i []).take (al x)++[((1:Int):Rat)]=_;rw[jo (by rw[m3 i cw];exact bX _),tI];congr 1
    ·exact vt 0 (m3 i cw) λj hj=>(aqv (X:=el x) (i:=i) hj).symm
    ·rw[arn];rfl
   rw[ef,mX];refine⟨⟨by omega,h1⟩,⟨by omega,by rw[show x.getD ((i:Nat):Int).toNat []=x.getD i [] from rfl,m3 i cw];omega,rfl⟩,by unfold ax;omega,⟨by simp,?_⟩,λ_=>⟨(0,i),⟨⟨rfl,rfl,rfl,rfl,rfl,rfl,rfl,rfl⟩,rfl,⟨rfl,apI λa b _ _=>(asB ..).symm⟩,bE λt _=>by rw[dw (nc t)],rfl⟩,⟨rfl,ia _⟩,λ⟨j,i2⟩ ⟨e,hj⟩=>?_⟩⟩
   ·have:=Co List.length ef;rw[mX] at this;have e2:(aM9 (x.getD ((i:Nat):Int).toNat []) none (some ((al x:Nat):Int))++[((1:Int):Rat)]).length=al x+1:=this;rw[c6] at e2;unfold aB;omega
   dsimp only at e hj ⊢;subst e;refine aH (λh2=>?_) λh2=>?_
   ·have uC:j<al x+1:=by omega
    rw[mX];refine⟨⟨by omega,h2⟩,uC,λ_=>⟨(0,j,i2),⟨⟨rfl,rfl,rfl,rfl,rfl,rfl,rfl,rfl,rfl,rfl,rfl⟩,rfl,fW uC 0,⟨rfl,rfl⟩,rfl,rfl⟩,⟨rfl,ia _⟩,λ⟨k,j2,i3⟩ ⟨e,hk⟩=>?_⟩⟩;obtain⟨e1,e2⟩:=Prod.mk.inj e;dsimp only at e1 e2 hk ⊢;subst e1;subst e2;rw[oA uC,asV uC,mX,mX,oL,K3];refine aH (λh3=>?_) λh3=>?_
    ·have sF:k<al x+1:=by omega
     rw[show((k:Nat):Int).toNat=k from rfl,fW sF,fW sF];refine⟨⟨by omega,h3⟩,sF,⟨by omega,by omega⟩,uC,⟨by omega,by omega⟩,uC,⟨by omega,by omega,by omega⟩,⟨by omega,by omega⟩,⟨hF _ _,hF _ _⟩,⟨(hT.nor hr (by split<;>omega) _ _ _).le (by unfold BQ;omega),((hT.ful _ i3 j2).mul (hT.ful _ i3 k)).le (by unfold BQ;omega)⟩,⟨by omega,by omega,by omega⟩,⟨by omega,by omega⟩,by unfold ax;omega,(k+1,j2,i3),⟨⟨rfl,rfl,rfl,rfl,rfl,rfl,rfl,rfl,rfl,rfl,rfl⟩,rfl,rfl,⟨rfl,(asW uC sF _).trans (apI λa b _ _=>asC ..)⟩,rfl,rfl⟩,⟨rfl,sF⟩,by show _-(k+1)<_-k;omega⟩
    ·have ek:k=al x+1:=by omega
     subst ek;rw[show((j2:Nat):Int).toNat=j2 from rfl,show((i3:Nat):Int).toNat=i3 from rfl,mX,fW uC,mY uC,dw (yz j2)];refine⟨⟨by omega,h2⟩,uC,⟨by omega,by omega⟩,⟨hF _ _,(hT.sy i3).le hB⟩,⟨(hT.rhs (by omega) _ _).le (by unfold BQ;omega),((hT.ful _ i3 j2).mul (hT.sy i3)).le (by unfold BQ;omega)⟩,⟨by omega,h2⟩,uC,by unfold ax;omega,(j2+1,i3),⟨⟨rfl,rfl,rfl,rfl,rfl,rfl,rfl,rfl⟩,rfl,⟨rfl,apI λa b _ hb=>as9 hb⟩,bE λt _=>?_,rfl⟩,⟨rfl,uC⟩,by show _-(j2+1)<_-j2;omega⟩;dsimp only;by_cases e:t=j2
     ·rw[fi e,fi (by omega),e];rfl
     ·rw[dw e];by_cases e2:t<j2
      ·rw[fi e2,fi (by omega)]
      ·rw[dw e2,dw (by omega)]
   ·have ej:j=al x+1:=by omega
    subst ej;exact⟨by unfold ax;omega,i2+1,⟨⟨rfl,rfl,rfl,rfl,rfl⟩,rfl,⟨rfl,apI λa b ha _=>ata ha⟩,bE λt ht=>fi ht ▸ rfl⟩,by omega,by omega⟩
  ·have e:i=x.length:=by omega
   subst e;rw[tK];show(okS (aM x r) (rhL x y)=true->aj4 (aM x r) (rhL x y))/\_;refine⟨λ_=>hT.apc hr,?_⟩;have eE:apq x y r=bif aoK x y r then 0 else 9:=by unfold apq;rw[hd];rfl
   have eW:aga x y r=bif aoK x y r then (aer (aM x r) (rhL x y)).take (al x) else []:=by unfold aga;rw[hd];rfl
   have eB:aci x y r=bif aoK x y r then (aer (aM x r) (rhL x y)).getD (al x) 0 else 0:=by unfold aci;rw[hd];rfl
   have eO:aoK x y r=bif abL (aM x r) (rhL x y) then decide ((aeE (aM x r)).length=0) else false:=rfl
   have eS:(aer (aM x r) (rhL x y)).length=al x+1:=by rw[arJ,apy]
   rw[eE,eW,eB,eO];change bif !decide (acV (aM x r) (rhL x y)=0) then _ else _
   cases hs:abL (aM x r) (rhL x y) with
   | false=>obtain⟨_,_,x3⟩:=ajT atJ hs;rw[<-x3];exact⟨⟨rfl,rfl⟩,rfl⟩
   | true=>
    obtain⟨x1,x2,x3⟩:=akT atJ hs;refine dP (λh=>absurd x3 h) λ_=>?_;change (adl (aM x r) (rhL x y)).length<=aB->_;intro _;change bif decide ((0:Int)<(((adl (aM x r) (rhL x y)).length:Nat):Int)) then _ else rz (acU (aM x r) (rhL x y)).length _ _ _/\(_/\_<(((acU (aM x r) (rhL x y)).length:Nat):Int))/\(aM9 (acU (aM x r) (rhL x y)) _ _=_/\(acU (aM x r) (rhL x y)).getD _ _=_)/\_
    rw[x1,x2];refine aH (λh=>?_) λh=>?_
    ·rw[fh,nS (by omega)];exact⟨⟨rfl,rfl⟩,rfl⟩
    ·rw[fh,tC (by omega),eS];exact⟨⟨by omega,by omega,rfl⟩,⟨by omega,by omega⟩,⟨rfl,rfl⟩,rfl⟩
theorem arM:ah (cfg []) asJ:=cf aug bp Tryz.func20 λa _ _ _ hc hg hf=>by change a6x a=_ at hc;unfold a6x at hc;split at hc<;>cases hc;cases aY (atg _ _ _) (ath _ _ _ hg);exact⟨rfl,by kernel_rfl,_,by assumption⟩
end Go.Proofs.YtnciifikfkpanaaGreatDoor.AM
