/- The base of the proof: contracts of functions, the engine that shows them, and mathematics. -/
import Derived.Lib.Builder
import Derived.Lib.AppendStr
import Derived.Test.YtcjeabdblhgblaaGreatDoorBd9
set_option maxRecDepth 100000
set_option linter.unusedVariables false
set_option linter.unusedSimpArgs false
set_option maxHeartbeats 8000000
namespace Go.Proofs.YtcjeabdblhgblaaGreatDoor.AM
open Go.RowKit
def UG:Nat:=15000000000
def GcF (p q:List Rat):Prop:=∃M,1<=M/\Cm M (co p)/\Cm M (co q)/\pot M (SM p).length (SM q).length<=UG
def GcI (p q a b:List Rat):Prop:=Tri a/\Tri b/\EuS UG a b/\gcL b.length a b=ajJ p q
theorem aHQ (M la lb:Nat):2*M+1<=pot M la lb:=by
 unfold pot;split
 ·have:=bD (M+2) (cM (show 0<3 by omega) (show 1<=la by omega));rw [Dh] at this;omega
 ·have:=bD (2*(M+2)) (cM (show 0<3 by omega) (ja lb));rw [Ad] at this;omega
theorem aEG:∀{n m:Nat} {a b:List Rat},Tri b->b.length<=n->b.length<=m->gcL n a b=gcL m a b
 | n,m,a,b,tb,hn,hm=>by
  by_cases h0:b.length=0
  ·cases n <;> cases m <;> simp [gcL,h0]
  ·match n,m with
   | 0,_=>exact absurd hn (by omega)
   | _+1,0=>exact absurd hm (by omega)
   | n+1,m+1=>
    unfold gcL
    rw [iS h0,iS h0]
    have hl:=(aq0 (a:=a) tb (by omega)).2
    have er:SM (afM a b)=afM a b:=aur _
    exact aEG (n:=n) (m:=m) (Tri.trim _) (by rw [aqI,er];omega) (by rw [aqI,er];omega)
 termination_by n=>n
theorem GcF.start {p q:List Rat} (h:GcF p q):GcI p q (apl p) (apl q):=by obtain ⟨M,h1,hp,hq,hU⟩:=h;exact ⟨Tri.trim _,Tri.trim _,⟨M,h1,hp.mon h1,hq.mon h1,by rw [aqI,aqI];exact hU⟩,rfl⟩
theorem GcI.div {p q a b:List Rat} (h:GcI p q a b) (h0:0<b.length):DvF a b/\(∃n,1<=n/\Cm n (co (afM a b))/\2*n+1<=BQ)/\GcI p q b (apl (afM a b))/\(apl (afM a b)).length<b.length:=by
 obtain ⟨ta,tb,hE,hg⟩:=h;have hs:=(hE.step ta tb h0).1;obtain ⟨M,h1,ha,hb,hU⟩:=hE;have hr:=aDU h0 hU;unfold UG at hr;have hl:=(aq0 (a:=a) tb h0).2;have er:SM (afM a b)=afM a b:=aur _;have hm:=ha.rem hb tb h0;rw [ta.is] at hm;refine ⟨⟨M,M,h1,h1,ha,hb,by rw [ta.is,tb.is];unfold BQ;omega⟩,⟨_,by omega,hm,by unfold BQ;omega⟩,⟨tb,Tri.trim _,hs,?_⟩,by rw [aqI,er];exact hl⟩;rw [<-hg];obtain ⟨n,hn⟩:∃n,b.length=n+1:=⟨b.length-1,by omega⟩
 rw [hn];conv=>rhs;unfold gcL
 rw [iS (by omega)];exact aEG (Tri.trim _) (aV _) (by rw [aqI,er];omega)
noncomputable def LO6:List az:=aEl::aHL::aFd::LO2
theorem aDj:bd LO6:=⟨aCF,aGI,aDV,azu⟩
def foGcd:List AV->Option (Option Prop×AV×List Ob)
 | [.k (.list .q) p,.k (.list .q) q]=>some (some (GcF p q),.k (.list .q) (ajJ p q),[])
 | _=>none
def aFl:az:=⟨14,false,foGcd⟩
def aHS (p q:List Rat):bk:=⟨nU,fun key_=>match key_ with
 | 2=>some (⟨List Rat×List Rat,fun x=>[(0,.k (.list .q) x.1),(1,.k (.list .q) x.2)],fun x=>[],fun _ x=>GcI p q x.1 x.2,fun x=>x.2.length⟩) | _=>none,nR,nU⟩
def aFm (p q:List Rat):Prop:=(∃(n:Nat),(1:Nat)<=n/\Cm n (co p)/\(2:Nat)*n+(1:Nat)<=BQ)/\(∃(n:Nat),(1:Nat)<=n/\Cm n (co q)/\(2:Nat)*n+(1:Nat)<=BQ)/\∃(x0:List
 Rat×List Rat),(apl p=x0.1/\apl q=x0.2)/\GcI p q x0.1 x0.2/\∀(x:List Rat×List Rat),GcI p q x.1 x.2->x.2.length<=aB->bif decide ((0:Int) <
 (↑x.2.length:Int)) then DvF x.1 x.2/\(∃(n:Nat),(1:Nat)<=n/\Cm n (co (apU x.1 x.2))/\(2:Nat)*n+(1:Nat)<=BQ)/\∃(x':List Rat×List Rat),(x.2 =
 x'.1/\apl (apU x.1 x.2)=x'.2)/\GcI p q x'.1 x'.2/\x'.2.length<x.2.length else x.1=ajJ p q
theorem aGL (p q:List Rat):aw LO6 [] (aHS p q) Tryz.f14 (.k (.list .q) (ajJ p q)) [.k (.list .q) p,.k (.list .q) q]=aFm p q:=by kernel_rfl
theorem aGM (p q:List Rat) (hg:GcF p q):aFm p q:=by
 unfold aFm;obtain ⟨M,h1,hp,hq,hU⟩:=id hg;have hM:=aHQ M (SM p).length (SM q).length;have hB:2*M+1<=BQ:=by have h:=hU;unfold UG at h;unfold BQ;omega
 have cR:=hg.start;clear hU hM;refine ⟨⟨M,h1,hp,hB⟩,⟨M,h1,hq,hB⟩,(apl p,apl q),⟨rfl,rfl⟩,cR,fun ⟨a,b⟩ hI hL=>?_⟩;dsimp only at hI hL ⊢;refine aH (fun h=>?_) fun h=>?_
 ·have h0:0<b.length:=by omega
  obtain ⟨d1,d2,d3,d4⟩:=hI.div h0;rw [aAJ hI.2.1 h0];generalize apl (afM a b)=r' at *
  exact ⟨d1,d2,(b,r'),⟨rfl,rfl⟩,d3,d4⟩
 ·have e:=hI.2.2.2;rw [show b.length=0 by omega] at e;exact e
theorem aD4:ah (cfg []) aFl:=cf aDj bp Tryz.func14 (by kernel_rfl) fun args g r hn hc hg hf=>by
 replace hc:foGcd args=some (g,r,hn):=hc;unfold foGcd at hc;split at hc
 ·obtain ⟨rfl,rfl,rfl⟩:=aN hc;cases aY (aGL _ _) (aGM _ _ hg);exact ⟨rfl,by kernel_rfl,_,by assumption⟩
 ·cases hc
def aFn:List AV->Option (Option Prop×AV×List Ob)
 | [.k (.list .q) a,.k (.list .q) b]=>some (some (DvF a b),.k (.list .q) (ovL a b),[])
 | _=>none
def aHT:az:=⟨22,false,aFn⟩
def aHU (a b:List Rat):bk:=⟨nU,nL,nR,nU⟩
def aFo (a b:List Rat):Prop:=DvF a b/\(∃(n:Nat),(1:Nat)<=n/\Cm n (co (aqQ a b))/\(2:Nat)*n+(1:Nat)<=BQ)/\apl (aqQ a b)=ovL a b
theorem aGN (a b:List Rat):aw LO6 [] (aHU a b) Tryz.f22 (.k (.list .q) (ovL a b)) [.k (.list .q) a,.k (.list .q) b]=aFo a b:=by kernel_rfl
theorem aGO (a b:List Rat) (hg:DvF a b):aFo a b:=by
 unfold aFo;obtain ⟨n,m,h1,h2,ha,hb,hB⟩:=id hg;refine ⟨hg,?_,rfl⟩;unfold aqQ;by_cases h0:(SM b).length=0
 ·rw [nM h0];exact ⟨1,aV 1,Cm.nil (aV 1) rfl,by unfold BQ;omega⟩
 ·rw [iS h0];exact ⟨_,by omega,ha.quo (hb.congr (amP b)) (Tri.trim b) (by omega),hB⟩
theorem aGP:ah (cfg []) aHT:=cf aDj bp Tryz.func22 (by kernel_rfl) fun args g r hn hc hg hf=>by
 replace hc:aFn args=some (g,r,hn):=hc;unfold aFn at hc;split at hc
 ·obtain ⟨rfl,rfl,rfl⟩:=aN hc;cases aY (aGN _ _) (aGO _ _ hg);exact ⟨rfl,by kernel_rfl,_,by assumption⟩
 ·cases hc
def DeF (p:List Rat):Prop:=∃n,1<=n/\Cm n (co p)/\2*n+64<=BQ
def foDer:List AV->Option (Option Prop×AV×List Ob)
 | [.k (.list .q) p]=>some (some (DeF p),.k (.list .q) (auM p),[])
 | _=>none
def aHV:az:=⟨21,false,foDer⟩
def aHW (p:List Rat):bk:=⟨fun key_=>match key_ with | 6=>7 | _=>0,fun key_=>match key_ with
 | 4=>some (⟨Nat,fun i=>[(0,.k (.list .q) (SM p)),(3,.own 3 0 5),(4,.k (.int .i64) ((i:Nat):Int))],fun i=>[(3,.arr 42 .q (aA (i-1) fun j=>co p (j+1)*((j+1:Nat):Rat)))],fun _ i=>1<=i/\i-1<=(SM p).length-1,fun i=>(SM p).length+1-i⟩) | _=>none,nR,nU⟩
def aFp (p:List Rat):Prop:=SL BQ p/\∃(x0:Nat),((SM p=SM p/\(1:Int)=(↑x0:Int))/\(aA (x0-(1:Nat)) fun (j:Nat)=>co p (j+(1:Nat))*(↑(j+(1:Nat)):Rat))=[]) /\
 ((1:Nat)<=x0/\x0-(1:Nat)<=(SM p).length-(1:Nat))/\∀(x:Nat),
 let u1:=aA (x-(1:Nat)) fun (j:Nat)=>co p (j+(1:Nat))*(↑(j+(1:Nat)):Rat);(1:Nat)<=x/\x-(1:Nat)<=(SM p).length-(1:Nat)->(SM
 p).length<=aB->bif decide ((↑x:Int)<(↑(SM p).length:Int)) then ((0:Int)<=(↑x:Int)/\(↑x:Int)<(↑(SM p).length:Int))/\ab (↑x:Int)/\(Sq BQ
 ((SM p).getD (↑x:Int).toNat (0:Rat))/\Sq BQ (↑(↑x:Int):Rat))/\u1.length+[(SM p).getD (↑x:Int).toNat (0:Rat)*(↑(↑x:Int):Rat)].length<=aB /\
 ab ((↑x:Int)+(1:Int))/\∃(x':Nat),((SM p=SM p/\(↑x:Int)+(1:Int)=(↑x':Int))/\u1.append [(SM p).getD (↑x:Int).toNat (0:Rat)*(↑(↑x :
 Int):Rat)]=aA (x'-(1:Nat)) fun (j:Nat)=>co p (j+(1:Nat))*(↑(j+(1:Nat)):Rat))/\((1:Nat)<=x'/\x'-(1:Nat)<=(SM p).length-(1:Nat)) /\
 (SM p).length+(1:Nat)-x'<(SM p).length+(1:Nat)-x else SL BQ u1/\SM u1=auM p
theorem aGQ (p:List Rat):aw LO6 [] (aHW p) Tryz.f21 (.k (.list .q) (auM p)) [.k (.list .q) p]=aFp p:=by kernel_rfl
theorem aGR (p:List Rat) (hg:DeF p):aFp p:=by
 unfold aFp;obtain ⟨n,h1,hc,hB⟩:=hg;refine ⟨(hc.sl h1).le (by omega),1,⟨⟨rfl,rfl⟩,rfl⟩,⟨aV 1,by omega⟩,fun i ⟨hi1,OK⟩ hL=>aH (fun h=>?_) fun h=>?_⟩
 ·have hi:i<(SM p).length:=by omega
  obtain ⟨j,rfl⟩:∃j,i=j+1:=⟨i-1,by omega⟩
  unfold aB at hL;have hq:Sq 64 (((((j+1:Nat):Int)):Int):Rat):=Sq.int (Sm.lit (by omega)) (by omega);have e1:(SM p).getD (j+1) 0=co p (j+1):=amP p (j+1);rw [show (((j+1:Nat)):Int).toNat=j+1 from rfl,e1];refine ⟨⟨by omega,by omega⟩,⟨by omega,by omega⟩,⟨(hc.sq h1 _).le (by omega),hq.le (by unfold BQ;omega)⟩,by rw [mX];simp [aB];omega,⟨by omega,by omega⟩,j+1+1,⟨⟨rfl,rfl⟩,?_⟩,⟨by omega,by omega⟩,by omega⟩;exact eD rfl
 ·have e:i-1=(SM p).length-1:=by omega
  rw [e];refine ⟨SL.mk (fun t ht=>?_) BQp,rfl⟩;have hq:Sq 64 ((((t+1:Nat):Int):Int):Rat):=Sq.int (Sm.lit (by unfold aB at hL;omega)) (by omega);exact ((hc.sq h1 (t+1)).mul hq).le (by omega)
theorem aGS:ah (cfg []) aHV:=cf aDj bp Tryz.func21 (by kernel_rfl) fun args g r hn hc hg hf=>by
 replace hc:foDer args=some (g,r,hn):=hc;unfold foDer at hc;split at hc
 ·obtain ⟨rfl,rfl,rfl⟩:=aN hc;cases aY (aGQ _) (aGR _ hg);exact ⟨rfl,by kernel_rfl,_,by assumption⟩
 ·cases hc
def PoF (x:Rat) (n:Nat):Prop:=∃s,1<=s/\Sq s x/\s*n+1<=BQ/\n<=aB
theorem Sq.pw {s:Nat} {x:Rat} (h:Sq s x):∀n:Nat,Sq (s*n+1) (x^n)
 | 0=>by rw [Gq];exact (Sq.int (n:=1) Sm.one (aV 1)).le (by omega)
 | n+1=>by rw [CW];exact ((Sq.pw h n).mul h).le (by rw [nJ];omega)
def foPow:List AV->Option (Option Prop×AV×List Ob)
 | [.k .q x,.k (.int .i64) ((n:Nat):Int)]=>some (some (PoF x n),.k .q (x^n),[])
 | _=>none
def aKs:az:=⟨30,false,foPow⟩
def aHX (x:Rat) (n:Nat):bk:=⟨nU,fun key_=>match key_ with
 | 3=>some (⟨Nat,fun i=>[(2,.pt 2 0 5 0 0),(4,.pt 4 0 5 0 0),(5,.pt 5 0 5 0 0),(7,.k (.int .i64) ((n:Nat):Int)),(8,.k (.int .i64) ((i:Nat):Int))],
 fun i=>[(2,.box 42 (.k .q x)),(4,.box 42 (.k .q (0:Rat))),(5,.box 42 (.k .q (x^i)))],fun _ i=>i<=n,fun i=>n-i⟩) | _=>none,nR,nU⟩
def aFq (x:Rat) (n:Nat):Prop:=ab (1:Int)/\∃(x0:Nat),(((↑n:Int)=(↑n:Int)/\(0:Int)=(↑x0:Int))/\x=x/\(0:Rat)=(0:Rat)/\(↑(1:Int):Rat)=x^x0)/\x0<=n/\∀(y1 :
 Nat),y1<=n->bif decide ((↑y1:Int)<(↑n:Int)) then (Sq BQ (x^y1)/\Sq BQ x)/\ab ((↑y1:Int)+(1:Int))/\∃(x':Nat),(((↑n:Int)=(↑n:Int)/\(↑y1 :
 Int)+(1:Int)=(↑x':Int))/\x=x/\(0:Rat)=(0:Rat)/\x^y1*x=x^x')/\x'<=n/\n-x'<n-y1 else x^y1=x^n
theorem aGT (x:Rat) (n:Nat):aw LO6 [] (aHX x n) Tryz.f30 (.k .q (x^n)) [.k .q x,.k (.int .i64) ((n:Nat):Int)]=aFq x n:=by kernel_rfl
theorem aGU (x:Rat) (n:Nat) (hg:PoF x n):aFq x n:=by
 unfold aFq;obtain ⟨s,h1,hx,hB,hn⟩:=hg;unfold aB at hn;refine ⟨⟨by omega,by omega⟩,0,⟨⟨rfl,rfl⟩,rfl,rfl,(Gq x).symm⟩,ja _,fun i hi=>aH (fun h=>?_) fun h=>?_⟩
 ·have cw:i<n:=by omega
  have hs:=bD s (show i+1<=n by omega);rw [nJ,pM] at hs;exact ⟨⟨(Sq.pw hx i).le (by omega),hx.le (by omega)⟩,⟨by omega,by omega⟩,i+1,⟨⟨rfl,rfl⟩,rfl,rfl,(CW x i).symm⟩,by omega,by omega⟩
 ·rw [show i=n by omega]
theorem aGV:ah (cfg []) aKs:=cf aDj bp Tryz.func30 (by kernel_rfl) fun args g r hn hc hg hf=>by
 replace hc:foPow args=some (g,r,hn):=hc;unfold foPow at hc;split at hc
 ·obtain ⟨rfl,rfl,rfl⟩:=aN hc;cases aY (aGT _ _) (aGU _ _ hg);exact ⟨rfl,by kernel_rfl,_,by assumption⟩
 ·cases hc
def anu (p q:List Rat):Rat:=if (SM p).length=0\/(SM q).length=0 then 0 else rsL (SM p).length (SM p) (SM q)
def RsF (p q:List Rat):Prop:=∃M,1<=M/\Cm M (co p)/\Cm M (co q)/\pot M (SM q).length (SM p).length<=20000000/\(SM p).length<=20/\(SM q).length<=20
structure RsI (p q a b:List Rat) (out:Rat):Prop where
 ta:Tri a
 tb:Tri b
 la:0<a.length
 lb:0<b.length
 al:a.length<=20
 bl:b.length<=20
 eu:EuS 20000000 b a
 sz:Sq (400000001*(20-a.length)+1) out
 eq:out*rsL a.length a b=anu p q
theorem RsI.sub {p q a b:List Rat} {out:Rat} (h:RsI p q a b out):Sq 20000000 (co a (a.length-1))/\Sq BQ out/\PoF (co a (a.length-1)) 19:=by obtain ⟨M,h1,ha,hb,hU⟩:=h.eu;have:=aHQ M b.length a.length;have hs:Sq 20000000 (co a (a.length-1)):=(hb.sq h1 _).le (by omega);exact ⟨hs,h.sz.le (by have:=h.la;unfold BQ;omega),20000000,by omega,hs,by unfold BQ;omega,by unfold aB;omega⟩
theorem PoF.le {x:Rat} {n m:Nat} (h:PoF x m) (hn:n<=m):PoF x n:=by obtain ⟨s,h1,h2,h3,h4⟩:=h;have:=bD s hn;exact ⟨s,h1,h2,by omega,by omega⟩
theorem RsI.next {p q a b:List Rat} {out:Rat} (h:RsI p q a b out) (h2:1<a.length):DvF b a/\(afM b a).length<=b.length/\((afM b a).length=0->anu p q=0) /\
  ((afM b a).length≠0->Sq BQ (co a (a.length-1)^(b.length-(afM b a).length))/\Sq BQ (out*co a (a.length-1)^(b.length-(afM b a).length))/\RsI p q (afM b a) a (out*co a (a.length-1)^(b.length-(afM b a).length)*sgR a.length (afM b a).length)):=by
 obtain ⟨hs,ho,_⟩:=h.sub
 have la:=h.la
 have al:=h.al
 have bl:=h.bl
 have cR:=(h.eu.step h.tb h.ta h.la).2
 have hl:=(aq0 (a:=b) h.ta h.la).2
 have hle:=aFU b a
 rw [h.tb.is] at hle
 obtain ⟨M,h1,hb,ha,hU⟩:=h.eu
 have hr:=aDU h.la hU
 refine ⟨⟨M,M,h1,h1,hb,ha,by rw [h.tb.is,h.ta.is];unfold BQ;omega⟩,hle,fun h0=>?_,fun h0=>?_⟩
 ·have e:=h.eq
  obtain ⟨n,hn⟩:∃n,a.length=n+1:=⟨a.length-1,by omega⟩
  rw [hn,as2 h2 h0,Rat.mul_zero] at e
  exact e.symm
 ·have hp:=Sq.pw hs (b.length-(afM b a).length)
  have hm:=bD 20000000 (show b.length-(afM b a).length<=20 by omega)
  have h3:=h.sz.mul hp
  have h4:Sq (400000001*(20-(afM b a).length)+1) (out*co a (a.length-1)^(b.length-(afM b a).length)):=h3.le (by omega)
  refine ⟨hp.le (by unfold BQ;omega),h4.le (by unfold BQ;omega),as1 b a,h.ta,by omega,h.la,by omega,h.al,cR,?_,?_⟩
  ·unfold sgR
   split
   ·rw [show ∀x:Rat,x * -1 = -x from fun x=>by grind]
    exact h4.neg
   ·rw [EN];exact h4
  ·have e:=h.eq
   obtain ⟨n,hn⟩:∃n,a.length=n+1:=⟨a.length-1,by omega⟩
   rw [hn,aq2 h2 h0,aBC (m:=(afM b a).length) (as1 b a) (by omega) (by omega)] at e
   rw [<-e]
   grind
def coPowI:az:=⟨30,false,fun args=>match args with
 | [.k .q x,.k (.int .i64) n]=>some (some ((0:Int)<=n/\PoF x (Int.toNat n)),.k .q (x^Int.toNat n),[])
 | _=>none⟩
theorem aFr:ah (cfg []) coPowI:=ly aGV fun args g r hn hc hg=>by
 split at hc
 ·rename_i x n;obtain ⟨rfl,rfl,rfl⟩:=aN hc;obtain ⟨k,rfl⟩:=Ah hg.1;exact ⟨_,rfl,hg.2⟩
 ·cases hc
theorem RsF.start {p q:List Rat} (h:RsF p q) (hp:(SM p).length≠0) (hq:(SM q).length≠0):RsI p q (SM p) (SM q) ((1:Int):Rat):=by obtain ⟨M,h1,cp,cq,hU,lp,lq⟩:=h;refine ⟨Tri.trim p,Tri.trim q,by omega,by omega,lp,lq,⟨M,h1,cq.congr (amP q),cp.congr (amP p),hU⟩,(Sq.int (n:=1) Sm.one (aV 1)).le (by omega),?_⟩;unfold anu;rw [iS fun e=>e.elim hp hq];exact Rat.one_mul _
theorem aFs (n:Nat):((n:Nat):Int).tmod 2=((n%2:Nat):Int):=rfl
noncomputable def LO7:List az:=aEl::coPowI::aE8::aa5::xM::V9::[]
theorem aIH:bd LO7:=⟨aCF,aFr,aCB,V5,pJ,Qc,trivial⟩
def foRes:List AV->Option (Option Prop×AV×List Ob)
 | [.k (.list .q) p,.k (.list .q) q]=>some (some (SL BQ p/\SL BQ q/\((SM p).length≠0->(SM q).length≠0->RsF p q)),.k .q (anu p q),[])
 | _=>none
def aHY:az:=⟨9,false,foRes⟩
def aHZ (p q:List Rat):bk:=⟨fun key_=>match key_ with | 9=>13 | 13=>8 | _=>0,fun key_=>match key_ with
 | 5=>some (⟨List Rat×List Rat×Rat,fun x=>[(0,.k (.list .q) x.1),(1,.k (.list .q) x.2.1),(4,.pt 4 0 5 0 0),(5,.pt 5 0 5 0 0)],fun x=>[(4,.box 42 (.k .q (0:Rat))),(5,.box 42 (.k .q x.2.2))],fun _ x=>RsI p q x.1 x.2.1 x.2.2,fun x=>x.1.length⟩) | _=>none,nR,nU⟩
def aFt (p q:List Rat):Prop:=SL BQ p/\SL BQ q/\((SM p).length<=aB->bif decide ((↑(SM p).length:Int)=(0:Int)) then On (0:Int) (0:Nat)/\qOf (0:Int) (0:Nat)=anu p q else
 (SM q).length<=aB->bif decide ((↑(SM q).length:Int)=(0:Int)) then On (0:Int) (0:Nat)/\qOf (0:Int) (0:Nat)=anu p q else ab (1:Int)/\∃(x0
 : List Rat×List Rat×Rat),((SM p=x0.1/\SM q=x0.2.1)/\(0:Rat)=(0:Rat)/\(↑(1:Int):Rat)=x0.2.2)/\RsI p q x0.1 x0.2.1 x0.2.2/\∀(x:List Rat ×
 List Rat×Rat),let u4:=(↑(apU x.2.1 x.1).length:Int);let u3:=(↑x.2.1.length:Int);let u2:=(↑x.1.length:Int);let u1:=u3-u4;RsI p q x.1 x.2.1 x.2.2 ->
 x.1.length<=aB->bif decide ((1:Int)<u2) then DvF x.2.1 x.1/\((apU x.2.1 x.1).length<=aB->bif decide (u4=(0:Int)) then On (0:Int) (0:Nat)/\qOf (0 :
 Int) (0:Nat)=anu p q else ab (u2-(1:Int))/\((0:Int)<=u2-(1:Int)/\u2-(1:Int)<u2)/\ab u1/\((0:Int)<=u3-u4/\PoF (x.1.getD (u2-(1 :
 Int)).toNat (0:Rat)) u1.toNat)/\(Sq BQ x.2.2/\Sq BQ (x.1.getD (u2-(1:Int)).toNat (0:Rat)^u1.toNat))/\(x.1.length<=aB->(2:Int)≠(0:Int)/\bif decide
 (u2.tmod (2:Int)=(0:Int)) then (apU x.2.1 x.1).length<=aB->(2:Int)≠(0:Int)/\bif decide (u4.tmod (2:Int)=(0:Int)) then Sq BQ (x.2.2*x.1.getD (u2 -
 (1:Int)).toNat (0:Rat)^u1.toNat)/\∃(x':List Rat×List Rat×Rat),((apU x.2.1 x.1=x'.1/\x.1=x'.2.1)/\(0:Rat)=(0:Rat) /\ -(x.2.2*x.1.getD (u2-(1
 : Int)).toNat (0:Rat)^u1.toNat)=x'.2.2)/\RsI p q x'.1 x'.2.1 x'.2.2/\x'.1.length<x.1.length else ∃(x':List Rat×List Rat×Rat),((apU x.2.1 x.1=x'.1 /\
 x.1=x'.2.1)/\(0:Rat)=(0:Rat)/\x.2.2*x.1.getD (u2-(1:Int)).toNat (0:Rat)^u1.toNat=x'.2.2)/\RsI p q x'.1 x'.2.1 x'.2.2/\x'.1.length<x.1.length
 else ∃(x':List Rat×List Rat×Rat),((apU x.2.1 x.1=x'.1/\x.1=x'.2.1)/\(0:Rat)=(0:Rat)/\x.2.2*x.1.getD (u2-(1:Int)).toNat (0:Rat)^u1.toNat =
 x'.2.2)/\RsI p q x'.1 x'.2.1 x'.2.2/\x'.1.length<x.1.length)) else ((0:Int)<=(0:Int)/\(0:Int)<u2)/\ab (u3-(1:Int))/\((0:Int)<=u3-(1:Int) /\
 PoF (x.1.getD (Int.toNat (0:Int)) (0:Rat)) (u3-(1:Int)).toNat)/\(Sq BQ x.2.2/\Sq BQ (x.1.getD (Int.toNat (0:Int)) (0:Rat)^(u3-(1:Int)).toNat))/\x.2.2
 * x.1.getD (Int.toNat (0:Int)) (0:Rat)^(u3-(1:Int)).toNat=anu p q)
theorem aGW (p q:List Rat):aw LO7 [] (aHZ p q) Tryz.f9 (.k .q (anu p q)) [.k (.list .q) p,.k (.list .q) q]=aFt p q:=by kernel_rfl
theorem aGX (p q:List Rat) (hg:SL BQ p/\SL BQ q/\((SM p).length≠0->(SM q).length≠0->RsF p q)):aFt p q:=by
 unfold aFt;obtain ⟨SY,hsq,hg⟩:=hg;refine ⟨SY,hsq,fun _=>aH (fun h=>?_) fun h _=>aH (fun h'=>?_) fun h'=>?_⟩
 ·exact ⟨.inl rfl,(fN 0).trans (nM (.inl (by omega))).symm⟩
 ·exact ⟨.inl rfl,(fN 0).trans (nM (.inr (by omega))).symm⟩
 ·have hp:(SM p).length≠0:=by omega
  have hq:(SM q).length≠0:=by omega
  refine ⟨⟨by omega,by omega⟩,(SM p,SM q,((1:Int):Rat)),⟨⟨rfl,rfl⟩,rfl,rfl⟩,(hg hp hq).start hp hq,?_⟩;rintro ⟨a,b,out⟩;dsimp only;intro hI hL;have la:=hI.la;have lb:=hI.lb;have al:=hI.al;have bl:=hI.bl;refine aH (fun h2=>?_) fun h2=>?_
  ·have h2:1<a.length:=by omega
   obtain ⟨d1,d2,d3,d4⟩:=hI.next h2;obtain ⟨_,s2,s3⟩:=hI.sub;have hl:=(aq0 (a:=b) hI.ta la).2;rw [aAJ hI.ta la,aFs,aFs];refine ⟨d1,fun hR=>aH (fun h0=>⟨.inl rfl,(fN 0).trans (d3 (by omega)).symm⟩) fun h0=>?_⟩;obtain ⟨e1,e2,e3⟩:=d4 (by omega);rw [show ((a.length:Int)-1).toNat=a.length-1 by omega,show ((b.length:Int)-((afM b a).length:Int)).toNat=b.length-(afM b a).length by omega,show a.getD (a.length-1) 0=co a (a.length-1) from rfl];have yes:¬(a.length%2=0/\(afM b a).length%2=0)->RsI p q (afM b a) a (out*co a (a.length-1)^(b.length-(afM b a).length)):=fun hn=>by unfold sgR at e3;rw [iS hn,EN] at e3;exact e3
   refine ⟨⟨by omega,by omega⟩,⟨by omega,by omega⟩,⟨by omega,by omega⟩,⟨by omega,s3.le (by omega)⟩,⟨s2,e1⟩,fun _=>⟨by decide,aH (fun h5 _=>⟨by decide,aH (fun h6=>?_) fun h6=>?_⟩) fun h5=>?_⟩⟩
   ·unfold sgR at e3;rw [nM (by omega),show ∀x:Rat,x * -1 = -x from fun x=>by grind] at e3;exact ⟨e2,(afM b a,a,-(out*co a (a.length-1)^(b.length-(afM b a).length))),⟨⟨rfl,rfl⟩,rfl,rfl⟩,e3,hl⟩
   ·exact ⟨(afM b a,a,out*co a (a.length-1)^(b.length-(afM b a).length)),⟨⟨rfl,rfl⟩,rfl,rfl⟩,yes (by omega),hl⟩
   ·exact ⟨(afM b a,a,out*co a (a.length-1)^(b.length-(afM b a).length)),⟨⟨rfl,rfl⟩,rfl,rfl⟩,yes (by omega),hl⟩
  ·obtain ⟨s1,s2,s3⟩:=hI.sub;have ha:a.length=1:=by omega
   rw [ha] at s1 s3;have e:=hI.eq;rw [atx (by omega)] at e;rw [show ((b.length:Int)-1).toNat=b.length-1 by omega];refine ⟨⟨by omega,by omega⟩,⟨by omega,by omega⟩,⟨by omega,s3.le (by omega)⟩,⟨s2,?_⟩,e⟩;have hm:=bD 20000000 (show b.length-1<=20 by omega);exact (Sq.pw s1 (b.length-1)).le (by unfold BQ;omega)
theorem aGY:ah (cfg []) aHY:=cf aIH bp Tryz.func9 (by kernel_rfl) fun args g r hn hc hg hf=>by
 replace hc:foRes args=some (g,r,hn):=hc;unfold foRes at hc;split at hc
 ·obtain ⟨rfl,rfl,rfl⟩:=aN hc;cases aY (aGW _ _) (aGX _ _ hg);exact ⟨rfl,by kernel_rfl,_,by assumption⟩
 ·cases hc
def aCG:Nat->List Rat->List Rat->Prop
 | 0,f,_=>f.length<=1
 | n+1,f,r=>1<f.length->GcF f r/\DvF f (ajJ f r)/\DvF r (ajJ f r)/\aCG n (ajJ f r) (ovL r (ajJ f r))
def FrF (p:List Rat):Prop:=DeF p/\GcF p (auM p)/\DvF p (ajJ p (auM p))
def FcF (p:List Rat):Prop:=FrF p/\aCG p.length (frL p) (ajJ p (auM p))
noncomputable def LO8:List az:=aHV::aFl::aHT::[]
theorem aIJ:bd LO8:=⟨aGS,aD4,aGP,trivial⟩
def aFu:List AV->Option (Option Prop×AV×List Ob)
 | [.k (.list .q) p]=>some (some (FcF p),.k (.list (.list .q)) (aAw p),[])
 | _=>none
def aH0:az:=⟨6,false,aFu⟩
def aH1 (p:List Rat):bk:=⟨nU,fun key_=>match key_ with
 | 4=>some (⟨Nat×List Rat×List Rat×List (List Rat),fun x=>[(3,.own 3 0 1),(4,.k (.list .q) x.2.2.1),(5,.k (.list .q) x.2.1)],fun x=>[(3,.arr 22 (.list .q) x.2.2.2)],fun _ x=>aCG x.1 x.2.1 x.2.2.1/\x.2.2.2++aAv x.1 x.2.1 x.2.2.1=aAw p/\x.2.2.2.length+x.1=p.length,fun x=>x.1⟩) | _=>none,nR,nU⟩
def aFv (p:List Rat):Prop:=DeF p/\GcF p (auM p)/\DvF p (ajJ p (auM p))/\∃(x0:Nat×List Rat×List Rat×List (List Rat)),((ajJ p (auM p)=x0.2.2.1/\ovL p (ajJ p (auM p))=x0.2.1)
 /\ x0.2.2.2=[])/\(aCG x0.1 x0.2.1 x0.2.2.1/\x0.2.2.2++aAv x0.1 x0.2.1 x0.2.2.1=aAw p/\x0.2.2.2.length+x0.1=p.length)/\∀(x:Nat×List Rat×List Rat ×
 List (List Rat)),aCG x.1 x.2.1 x.2.2.1/\x.2.2.2++aAv x.1 x.2.1 x.2.2.1=aAw p/\x.2.2.2.length+x.1=p.length->x.2.1.length<=aB->bif decide ((1:Int) <
 (↑x.2.1.length:Int)) then GcF x.2.1 x.2.2.1/\DvF x.2.1 (ajJ x.2.1 x.2.2.1)/\x.2.2.2.length+[ovL x.2.1 (ajJ x.2.1 x.2.2.1)].length<=aB/\DvF x.2.2.1 (ajJ x.2.1
 x.2.2.1)/\∃(x':Nat×List Rat×List Rat×List (List Rat)),((ovL x.2.2.1 (ajJ x.2.1 x.2.2.1)=x'.2.2.1/\ajJ x.2.1 x.2.2.1=x'.2.1)/\x.2.2.2.append [ovL x.2.1
 (ajJ x.2.1 x.2.2.1)]=x'.2.2.2)/\(aCG x'.1 x'.2.1 x'.2.2.1/\x'.2.2.2++aAv x'.1 x'.2.1 x'.2.2.1=aAw p/\x'.2.2.2.length+x'.1=p.length)/\x'.1<x.1 else
 x.2.2.2=aAw p
theorem aGZ (p:List Rat):aw LO8 [] (aH1 p) Tryz.f6 (.k (.list (.list .q)) (aAw p)) [.k (.list .q) p]=aFv p:=by kernel_rfl
theorem aG0 (p:List Rat) (hg:FcF p) (hf:cJ [.k (.list .q) p]):aFv p:=by
 unfold aFv;obtain ⟨⟨h1,h2,h3⟩,h4⟩:=hg;have hL:p.length<=aB:=hf.1.1;have e0:aAw p=aAv p.length (ovL p (ajJ p (auM p))) (ajJ p (auM p)):=by unfold aAw frL;rfl
 unfold frL at h4;rw [e0];clear e0 hf;generalize auM p=d at *
 generalize ajJ p d=r0 at *
 generalize ovL p r0=f0 at *
 generalize hz:aAv p.length f0 r0=z at *
 refine ⟨h1,h2,h3,(p.length,f0,r0,[]),⟨⟨rfl,rfl⟩,rfl⟩,⟨h4,hz,jn _⟩,?_⟩;clear h1 h2 h3 h4 hz;rintro ⟨n,f,r,out⟩ ⟨hk,he,hl⟩ _;dsimp only at hk he hl ⊢;refine aH (fun h=>?_) fun h=>?_
 ·have h1:1<f.length:=by omega
  cases n with
  | zero=>exact absurd hk (by show ¬f.length<=1;omega)
  | succ n=>
   obtain ⟨k1,k2,k3,k4⟩:=hk h1;have e:aAv (n+1) f r=ovL f (ajJ f r)::aAv n (ajJ f r) (ovL r (ajJ f r)):=iS (by omega);rw [e] at he;generalize ajJ f r=g at *
   generalize ovL f g=o at *
   generalize ovL r g=r' at *
   refine ⟨k1,k2,by simp;omega,k3,(n,g,r',out.append [o]),⟨⟨rfl,rfl⟩,rfl⟩,⟨k4,?_,?_⟩,yv n⟩
   ·rw [<-he];simp
   ·dsimp only;simp;omega
 ·have e:aAv n f r=[]:=by
   cases n with
   | zero=>rfl
   | succ n=>exact nM (by omega)
  rw [e] at he;rw [<-he];simp
theorem aG1:ah (cfg []) aH0:=cf aIJ bp Tryz.func6 (by kernel_rfl) fun args g r hn hc hg hf=>by
 replace hc:aFu args=some (g,r,hn):=hc;unfold aFu at hc;split at hc
 ·obtain ⟨rfl,rfl,rfl⟩:=aN hc;cases aY (aGZ _) (aG0 _ hg hf);exact ⟨rfl,by kernel_rfl,_,by assumption⟩
 ·cases hc
end Go.Proofs.YtcjeabdblhgblaaGreatDoor.AM
namespace Go.Proofs.YtcjeabdblhgblaaGreatDoor
open Go.RowKit
theorem ae1 (d:Nat) (h:d=1\/d=2) (w:World) :
  Calls Tryz.prog 114 #[.int .u64 d,.int .i64 10] w fun e w'=>e = .returned (.string (abQ d))/\w'=w:=by
 have aiQ:∀W,Calls Tryz.prog 134 #[.int .i64 d] W fun e w'=>e = .returned (.string (abQ d))/\w'=W:=by
  intro W;rcases h with rfl | rfl
  all_goals
   go_enter Tryz.func134,Tryz.ntmps134
   go_wp2
   go_ret
   exact ⟨rfl,rfl⟩
 have ajq:∀W,Calls Tryz.prog 130 #[.int .u64 d,.int .i64 10] W fun e w'=>e = .returned (.string (abQ d))/\w'=W:=by
  intro W;have H:=aad aiQ;clear aiQ;have h1:(d:Int)<100:=by omega
  have h2:(0:Int)<=d:=by omega
  generalize abQ d=t at *
  clear h;generalize (d:Int)=z at *
  go_enter Tryz.func130,Tryz.ntmps130
  go_wp2_with (go_at_call 134;refine (H.out _).mono ?_;rintro e w' ⟨rfl,rfl⟩)
  go_ret
  exact ⟨rfl,rfl⟩
 have H:=aad ajq
 clear aiQ ajq h
 generalize abQ d=t at *
 generalize (d:Int)=z at *
 go_enter Tryz.func114,Tryz.ntmps114
 go_wp2_with (go_at_call 130;refine (H.out _).mono ?_;rintro e w' ⟨rfl,rfl⟩)
 go_ret
 exact ⟨rfl,rfl⟩
theorem aiR {n:Nat} (h:n=1\/n=2) (W:World):Calls Tryz.prog 87 #[.agg #[.int .u64 (lo (n):Nat),.string (hi (n))]] W (cg (.string (abQ n)) W):=agb n (by unfold aa;omega) _ (fun W=>(ae1 n h W).mono fun _ _ hh=>⟨hh.1,by rw [hh.2];exact Ext.refl _⟩) W
end Go.Proofs.YtcjeabdblhgblaaGreatDoor
namespace Go.Proofs.YtcjeabdblhgblaaGreatDoor
open Go.RowKit
theorem aG2 (d:Nat) (h:d=2\/d=3\/d=4\/d=5\/d=6\/d=7\/d=8\/d=9) (w:World):Calls Tryz.prog 63 #[.int .i64 d] w fun e w'=>e = .returned (.string (abQ d))/\w'=w:=by
 have h1:∀W,Calls Tryz.prog 134 #[.int .i64 d] W fun e w'=>e = .returned (.string (abQ d))/\w'=W:=by
  intro W;rcases h with rfl | rfl | rfl | rfl | rfl | rfl | rfl | rfl
  all_goals
   go_enter Tryz.func134,Tryz.ntmps134
   go_wp2
   go_ret
   exact ⟨rfl,rfl⟩
 have h2:∀W,Calls Tryz.prog 116 #[.int .i64 d,.int .i64 10] W fun e w'=>e = .returned (.string (abQ d))/\w'=W:=by
  intro W;have H:=aad h1;clear h1;have h1:(d:Int)<100:=by omega
  have h2:(0:Int)<=d:=by omega
  generalize abQ d=t at *
  clear h;generalize (d:Int)=z at *
  go_enter Tryz.func116,Tryz.ntmps116
  go_wp2_with (go_at_call 134;refine (H.out _).mono ?_;rintro e w' ⟨rfl,rfl⟩)
  go_ret
  exact ⟨rfl,rfl⟩
 have h3:∀W,Calls Tryz.prog 88 #[.int .i64 d] W fun e w'=>e = .returned (.string (abQ d))/\w'=W:=by
  intro W;have H:=aad h2;clear h1 h2 h;generalize abQ d=t at *
  generalize (d:Int)=z at *
  go_enter Tryz.func88,Tryz.ntmps88
  go_wp2_with (go_at_call 116;refine (H.out _).mono ?_;rintro e w' ⟨rfl,rfl⟩)
  go_ret
  exact ⟨rfl,rfl⟩
 have H:=aad h3;clear h1 h2 h3 h;generalize abQ d=t at *
 generalize (d:Int)=z at *
 go_enter Tryz.func63,Tryz.ntmps63
 go_wp2_with (go_at_call 88;refine (H.out _).mono ?_;rintro e w' ⟨rfl,rfl⟩)
 go_ret
 exact ⟨rfl,rfl⟩
end Go.Proofs.YtcjeabdblhgblaaGreatDoor
namespace Go.Proofs.YtcjeabdblhgblaaGreatDoor.AM
open Go.RowKit
def NtP (n:Nat):Prop:=n=1\/n=2
def auq (n:Nat):ByteArray:=abQ n
theorem aAN {n:Nat} (_:NtP n):(auq n).size<=200000:=by show 1<=200000;omega
def aFw:az:=⟨87,false,on1 .nat (fun n=>some (NtP n)) fun n=>.k .str (auq n)⟩
theorem aD5:ah (cfg []) aFw:=nB (enters_of Tryz.func87 (by kernel_rfl) rfl) (fun _=>rfl) fun F n u w hg ht hu=>by obtain rfl:=hu.lu;exact Calls.mono (aiR hg w) fun e w' ⟨h1,h2⟩=>⟨_,h1,h2,.mkStr _⟩
def aF0:az:=⟨63,false,on1 (.int .i64) (fun (n:Int)=>some ((2:Int)<=n/\n<=(9:Int))) fun (n:Int)=>.k .str (abQ (Int.toNat n))⟩
theorem aFx:ah (cfg []) aF0:=nB (enters_of Tryz.func63 (by kernel_rfl) rfl) (fun _=>rfl) fun F (n:Int) u w hg ht hu=>by have h1:(2:Int)<=n:=hg.1;have h2:n<=(9:Int):=hg.2;obtain ⟨d,rfl⟩:=Ah (show (0:Int)<=n by omega);have hu:=hu.int;subst hu;exact Calls.mono (aG2 d (by omega) w) fun e w' ⟨h1,h2⟩=>⟨_,h1,by rw [h2];exact Ext.refl _,.mkStr _⟩
end Go.Proofs.YtcjeabdblhgblaaGreatDoor.AM
namespace Go.Proofs.YtcjeabdblhgblaaGreatDoor.AM
open Go.RowKit
def qTx (x:Rat):ByteArray:=if x.den=1 then auq x.num.natAbs else auq x.num.natAbs++(⟨#[47]⟩:ByteArray)++auq x.den
def QtP (x:Rat):Prop:=0<=x.num/\NtP x.num.natAbs/\(x.den≠1->NtP x.den)/\Sq BQ x
noncomputable def LO9:List az:=aFw::[]
theorem aIK:bd LO9:=⟨aD5,trivial⟩
def foZTx:List AV->Option (Option Prop×AV×List Ob)
 | [.k .z x]=>some (some (0<=x/\NtP x.natAbs),.k .str (auq x.natAbs),[])
 | _=>none
def aH2:az:=⟨86,false,foZTx⟩
def aH3 (x:Int):bk:=⟨nU,nL,nR,nU⟩
def aFy (x:Int):Prop:=bif decide (x<(0:Int)) then NtP x.natAbs/\(⟨#[45]⟩:ByteArray).size+(auq x.natAbs).size<=(9223372036854775807:Nat)/\(⟨#[45]⟩:ByteArray)++auq x.natAbs =
 auq x.natAbs else NtP x.natAbs/\auq x.natAbs=auq x.natAbs
theorem aG3 (x:Int):aw LO9 [] (aH3 x) Tryz.f86 (.k .str (auq x.natAbs)) [.k .z x]=aFy x:=by kernel_rfl
theorem aG4 (x:Int) (hg:0<=x/\NtP x.natAbs):aFy x:=by unfold aFy;exact aH (fun h=>absurd hg.1 (by omega)) fun _=>⟨hg.2,rfl⟩
theorem aG5:ah (cfg []) aH2:=cf aIK bp Tryz.func86 (by kernel_rfl) fun args g r hn hc hg hf=>by
 replace hc:foZTx args=some (g,r,hn):=hc;unfold foZTx at hc;split at hc
 ·obtain ⟨rfl,rfl,rfl⟩:=aN hc;cases aY (aG3 _) (aG4 _ hg);exact ⟨rfl,by kernel_rfl,_,by assumption⟩
 ·cases hc
noncomputable def aIW:List az:=aH2::FI::aFw::[]
theorem aH4:bd aIW:=⟨aG5,FL,aD5,trivial⟩
def foQTx:List AV->Option (Option Prop×AV×List Ob)
 | [.k .q x]=>some (some (QtP x),.k .str (qTx x),[])
 | _=>none
def aH5:az:=⟨62,false,foQTx⟩
def aH6 (x:Rat):bk:=⟨fun key_=>match key_ with | 3=>6 | _=>0,nL,nR,nU⟩
def aFz (x:Rat):Prop:=Sq BQ x/\bif decide (x.den=(1:Nat)) then ((0:Int)<=x.num/\NtP x.num.natAbs)/\auq x.num.natAbs=qTx x else ((0:Int)<=x.num/\NtP x.num.natAbs)/\(auq
 x.num.natAbs).size+(⟨#[47]⟩:ByteArray).size<=(9223372036854775807:Nat)/\NtP (d1 x.den)/\(auq x.num.natAbs++(⟨#[47]⟩:ByteArray)).size+(auq (d1
 x.den)).size<=(9223372036854775807:Nat)/\auq x.num.natAbs++(⟨#[47]⟩:ByteArray)++auq (d1 x.den)=qTx x
theorem aG6 (x:Rat):aw aIW [] (aH6 x) Tryz.f62 (.k .str (qTx x)) [.k .q x]=aFz x:=by kernel_rfl
theorem aG7 (x:Rat) (hg:QtP x):aFz x:=by unfold aFz;obtain ⟨h1,h2,h3,h4⟩:=hg;have l1:=aAN h2;have s1:(⟨#[47]⟩:ByteArray).size=1:=rfl;refine ⟨h4,aH (fun h=>⟨⟨h1,h2⟩,(nM h).symm⟩) fun h=>?_⟩;have h5:=h3 h;have l2:=aAN h5;rw [show d1 x.den=x.den from iS h];exact ⟨⟨h1,h2⟩,by omega,h5,by rw [uA];omega,(iS h).symm⟩
theorem aG8:ah (cfg []) aH5:=cf aH4 bp Tryz.func62 (by kernel_rfl) fun args g r hn hc hg hf=>by
 replace hc:foQTx args=some (g,r,hn):=hc;unfold foQTx at hc;split at hc
 ·obtain ⟨rfl,rfl,rfl⟩:=aN hc;cases aY (aG6 _) (aG7 _ hg);exact ⟨rfl,by kernel_rfl,_,by assumption⟩
 ·cases hc
theorem aEH {x:Rat} (h:QtP x):(qTx x).size<=500000:=by
 obtain ⟨_,h2,h3,_⟩:=h;have l1:=aAN h2;unfold qTx;split
 ·omega
 ·rename_i h;have l2:=aAN (h3 h);have s1:(⟨#[47]⟩:ByteArray).size=1:=rfl;rw [uA,uA];omega
def tmT (x:Rat) (n:Nat):ByteArray:=if n=0 then qTx x else if x=1 then (if 1<n then (⟨#[120]⟩:ByteArray)++((⟨#[94]⟩:ByteArray)++abQ n) else (⟨#[120]⟩:ByteArray)) else qTx x++(⟨#[42]⟩:ByteArray)++(if 1<n then (⟨#[120]⟩:ByteArray)++((⟨#[94]⟩:ByteArray)++abQ n) else (⟨#[120]⟩:ByteArray))
noncomputable def aIX:List az:=aH5::aF0::Ke::aa5::[]
theorem aH7:bd aIX:=⟨aG8,aFx,z7,V5,trivial⟩
def foTm:List AV->Option (Option Prop×AV×List Ob)
 | [.k .q x,.k (.int .i64) ((n:Nat):Int)]=>some (some (QtP x/\n<=9),.k .str (tmT x n),[])
 | _=>none
def aL6:az:=⟨34,false,foTm⟩
def aIL (x:Rat) (n:Nat):bk:=⟨fun key_=>match key_ with | 6=>2 | _=>0,nL,nR,nU⟩
def aH8 (x:Rat) (n:Nat):Prop:=
 let t1:=(⟨#[94]⟩:ByteArray)++abQ (↑n:Int).toNat;
 bif decide ((↑n:Int)=(0:Int)) then QtP x/\qTx x=tmT x n else bif decide ((1:Int)<(↑n:Int)) then ((2:Int)<=(↑n:Int)/\(↑n:Int)<=(9:Int)) /\
 (⟨#[94]⟩:ByteArray).size+(abQ (↑n:Int).toNat).size<=(9223372036854775807:Nat)/\(⟨#[120]⟩:ByteArray).size+t1.size<=(9223372036854775807:Nat)/\ab
 (1:Int)/\(Sq BQ x/\Sq BQ (↑(1:Int):Rat))/\bif decide (fS x (↑(1:Int):Rat)=(0:Int)) then (⟨#[120]⟩:ByteArray)++t1=tmT x n else QtP x/\(qTx
 x).size+(⟨#[42]⟩:ByteArray).size<=(9223372036854775807:Nat)/\(qTx x++(⟨#[42]⟩:ByteArray)).size+((⟨#[120]⟩:ByteArray)++t1).size<=(9223372036854775807 :
 Nat)/\qTx x++(⟨#[42]⟩:ByteArray)++((⟨#[120]⟩:ByteArray)++t1)=tmT x n else ab (1:Int)/\(Sq BQ x/\Sq BQ (↑(1:Int):Rat))/\bif decide (fS x (↑(1 :
 Int):Rat)=(0:Int)) then (⟨#[120]⟩:ByteArray)=tmT x n else QtP x/\(qTx x).size+(⟨#[42]⟩:ByteArray).size<=(9223372036854775807:Nat)/\(qTx x++(⟨#[42]⟩ :
 ByteArray)).size+(⟨#[120]⟩:ByteArray).size<=(9223372036854775807:Nat)/\qTx x++(⟨#[42]⟩:ByteArray)++(⟨#[120]⟩:ByteArray)=tmT x n
theorem aH9 (x:Rat) (n:Nat):aw aIX [] (aIL x n) Tryz.f34 (.k .str (tmT x n)) [.k .q x,.k (.int .i64) ((n:Nat):Int)]=aH8 x n:=by kernel_rfl
theorem aIa (x:Rat) (n:Nat) (hg:QtP x/\n<=9):aH8 x n:=by
 unfold aH8;dsimp only;obtain ⟨h1,h2⟩:=hg;have hl:=aEH h1;have s1:(⟨#[94]⟩:ByteArray).size=1:=rfl;have s2:(⟨#[120]⟩:ByteArray).size=1:=rfl;have s3:(⟨#[42]⟩:ByteArray).size=1:=rfl;have s4:(abQ n).size=1:=rfl;have i1:ab 1:=⟨by omega,by omega⟩
 have o1:Sq BQ (1:Rat):=(Sq.int (n:=1) Sm.one (aV 1)).le BQp;have e1:((1:Int):Rat)=1:=rfl;rw [e1,show ((n:Nat):Int).toNat=n from rfl];refine aH (fun h=>⟨h1,(nM (by omega)).symm⟩) fun h=>aH (fun h'=>⟨⟨by omega,by omega⟩,by omega,by rw [uA];omega,i1,⟨h1.2.2.2,o1⟩,aH (fun h3=>?_) fun h3=>?_⟩) fun h'=>⟨i1,⟨h1.2.2.2,o1⟩,aH (fun h3=>?_) fun h3=>?_⟩
 ·unfold tmT;rw [iS (by omega),nM (gz.1 h3),nM (by omega)]
 ·unfold tmT;rw [iS (by omega),iS (fun e=>h3 (gz.2 e)),nM (by omega)];exact ⟨h1,by omega,by rw [uA,uA,uA];omega,rfl⟩
 ·unfold tmT;rw [iS (by omega),nM (gz.1 h3),iS (by omega)]
 ·unfold tmT;rw [iS (by omega),iS (fun e=>h3 (gz.2 e)),iS (by omega)];exact ⟨h1,by omega,by rw [uA];omega,rfl⟩
theorem aIb:ah (cfg []) aL6:=cf aH7 bp Tryz.func34 (by kernel_rfl) fun args g r hn hc hg hf=>by
 replace hc:foTm args=some (g,r,hn):=hc;unfold foTm at hc;split at hc
 ·obtain ⟨rfl,rfl,rfl⟩:=aN hc;cases aY (aH9 _ _) (aIa _ _ hg);exact ⟨rfl,by kernel_rfl,_,by assumption⟩
 ·cases hc
def aqR (x:Rat):Rat:=bif decide (x.num<0) then -x else x
noncomputable def aIY:List az:=sj::JA::[]
theorem aIc:bd aIY:=⟨nG,zV,trivial⟩
def aFA:List AV->Option (Option Prop×AV×List Ob)
 | [.k .q x]=>some (some (Sq BQ x),.k .q (aqR x),[])
 | _=>none
def aKt:az:=⟨35,false,aFA⟩
def aId (x:Rat):bk:=⟨fun key_=>match key_ with | 1=>6 | _=>0,nL,nR,nU⟩
def aFB (x:Rat):Prop:=Sm BN x.num.natAbs/\On (bW false x.num.natAbs) (d1 x.den)/\qOf (bW false x.num.natAbs) (d1 x.den)=aqR x
theorem aG9 (x:Rat):aw aIY [] (aId x) Tryz.f35 (.k .q (aqR x)) [.k .q x]=aFB x:=by kernel_rfl
theorem aHa (x:Rat) (hg:Sq BQ x):aFB x:=by
 unfold aFB aqR;refine ⟨hg.num.le (by unfold BQ BN;omega),?_⟩;have key:∀z:Rat,On z.num (d1 z.den):=fun z=>by
  by_cases e:z.den=1
  ·exact .inl (FH.2 e)
  ·refine .inr ?_;unfold d1;rw [iS e];exact ⟨e,z.reduced⟩
 by_cases h:x.num<0
 ·rw [tH h,show bW false x.num.natAbs=(-x).num from (by rw [Rat.neg_num];show ((x.num.natAbs:Nat):Int)=_;omega)];exact ⟨key (-x),ZL (-x)⟩
 ·rw [nK h,show bW false x.num.natAbs=x.num from (by show ((x.num.natAbs:Nat):Int)=_;omega)];exact ⟨key x,ZL x⟩
theorem aHb:ah (cfg []) aKt:=cf aIc bp Tryz.func35 (by kernel_rfl) fun args g r hn hc hg hf=>by
 replace hc:aFA args=some (g,r,hn):=hc;unfold aFA at hc;split at hc
 ·obtain ⟨rfl,rfl,rfl⟩:=aN hc;cases aY (aG9 _) (aHa _ hg);exact ⟨rfl,by kernel_rfl,_,by assumption⟩
 ·cases hc
def pcB (xs:List Rat) (j:Nat):List UInt8:=if co xs j=0 then [] else (if j+1=xs.length then (if co xs j<0 then [45] else []) else if co xs j<0 then [32,45,32] else [32,43,32])++(tmT (aqR (co xs j)) j).data.toList
def txB (xs:List Rat):Nat->List UInt8
 | 0=>[]
 | m+1=>txB xs m++pcB xs (xs.length-1-m)
def aEn (xs:List Rat):ByteArray:=if (SM xs).length=0 then ⟨#[48]⟩ else ⟨(txB (SM xs) (SM xs).length).toArray⟩
def TxP (xs:List Rat):Prop:=SL BQ xs/\(SM xs).length<=10/\∀j,co xs j≠0->QtP (aqR (co xs j))
abbrev qCv (x:Rat):Value:=.agg (qC x).toArray
theorem aF1 {f:FuncId} {c:List AV->Option (Option Prop×AV×List Ob)} {x:Rat} {g:Option Prop} {r:AV} (h:ah (cfg []) ⟨f,false,c⟩) (hc:c [.k .q x]=some (g,r,[])) (hg:bt g) (hr:r.owns=false) (W:World) (ht:cK W) :
  Calls Tryz.prog f #[qCv x] W fun e w'=>∃v,e = .returned v/\Ext W w'/\aq (fun _=>True) w' dX r v:=
 qV h hc hg hr ht (vs:=[qCv x]) ⟨⟨_,rfl,rfl⟩,trivial⟩
theorem apM {T e:TypeId} {B b:Nat} {bs:List Value} {w w':World} (h:Lib.IsBuilder T e B b bs w) (hx:Ext w w'):Lib.IsBuilder T e B b bs w':=by
 have hg:w.grownBy w' none:=⟨hx.os,hx.tape,hx.output,hx.size,fun k hk _=>hx.block k hk⟩
 have key:∀{p:Value},Lib.BuilderAt T e B b p bs w->Lib.BuilderAt T e B b p bs w':=fun {p} h=>by have aU:=h.lt;obtain ⟨hB,v,hb,kU,ay⟩:=h;exact ⟨hB,v,(hx.block b aU).trans hb,kU.kept hg (by cases v.ownBlock <;> simp),ay⟩
 rcases h with h | h
 ·exact .inl (key h)
 ·exact .inr (key h)
theorem aIM {xs:List Rat} {v:Value} {w:World} (h:aq (fun _=>True) w dX (.k (.list .q) xs) v) (h0:0<xs.length):∃g off c,v = .slice (some ⟨g,off,none⟩) xs.length c/\g<w.heap.size/\∀j,j<xs.length->fF w g (off+j*5) (qC (co xs j)):=by obtain ⟨cs,⟨A,c,rfl,h1,h2,h3⟩,rfl⟩:=h;obtain ⟨g,off,css,rfl,_,h5,h6,h7,h8⟩:=h3 (fun e=>by rw [e] at h0;simp at h0);refine ⟨g,off,c,rfl,h5,fun j hj=>?_⟩;have lz:css[j]? = some css[j]:=bh (by omega);have hk:=h8 j _ _ (fG hj (0:Rat)) lz;have hk:css[j]=qC (co xs j):=hk;rw [<-hk];exact sU h6 (rA h7 h8) lz
theorem aEJ {w W:World} {g off B:Nat} {cs:List Value} (h:fF w g off cs) (hg:g<B) (b:Below B w W):fF W g off cs:=fun i hi=>(World.cell?_of_block (a:=⟨g,off+i,none⟩) (b.block g hg)).trans (h i hi)
theorem aF2 {x:Rat} {n:Nat} (h:QtP x):(tmT x n).size<=600000:=by
 have hl:=aEH h;have s1:(⟨#[94]⟩:ByteArray).size=1:=rfl;have s2:(⟨#[120]⟩:ByteArray).size=1:=rfl;have s3:(⟨#[42]⟩:ByteArray).size=1:=rfl;have s4:(abQ n).size=1:=rfl;unfold tmT;repeat' split
 all_goals (try simp only [uA])
 all_goals omega
theorem aIN {xs:List Rat} {j:Nat} (h:co xs j≠0->QtP (aqR (co xs j))):(pcB xs j).length<=600003:=by
 unfold pcB;split
 ·exact ja _
 ·rename_i h0;have:=aF2 (n:=j) (h h0);have e:(tmT (aqR (co xs j)) j).data.toList.length=(tmT (aqR (co xs j)) j).size:=px;rw [bu,e];have h3:∀l:List UInt8,l.length<=3->l.length+(tmT (aqR (co xs j)) j).size<=600003:=fun l hl=>by omega
  refine h3 _ ?_;(repeat' split) <;> decide
theorem aF3 {xs:List Rat} (h:∀j,co xs j≠0->QtP (aqR (co xs j))):∀m,(txB xs m).length<=600003*m
 | 0=>aV _
 | m+1=>by show (txB xs m++pcB xs _).length<=_;have:=aF3 h m;have:=aIN (h (xs.length-1-m));rw [bu,nJ];omega
theorem sign_neg {x:Rat} (h:x<0):x.num.sign = -1:=by
 refine sv ?_;rcases Int.lt_or_le x.num 0 with h1 | h1
 ·exact h1
 ·exact absurd (Rat.num_nonneg.1 h1) (Rat.not_le.2 h)
theorem aD6 {x:Rat} (h0:x≠0) (h:¬x<0):x.num.sign=1:=by refine sy ?_;have h1:0<=x.num:=Rat.num_nonneg.2 (Rat.not_lt.1 h);have h2:x.num≠0:=fun e=>h0 (Aa.1 e);omega
theorem aFC (xs:List Rat) (hg:TxP xs) (w:World) (v:Value) (ht:cK w) (hv:aq (fun _=>True) w dX (.k (.list .q) xs) v):Calls Tryz.prog 11 #[v] w (cg (.string (aEn xs)) w):=by
 obtain ⟨hs,aF4,hq⟩:=hg;have HT:Hid (Calls Tryz.prog 23 #[v] w fun e w'=>∃v,e = .returned v/\Ext w w'/\aq (fun _=>True) w' dX (.k (.list .q) (SM xs)) v):=aad (qV aCB (args:=[.k (.list .q) xs]) rfl hs rfl ht (vs:=[v]) ⟨hv,trivial⟩);have HTB:=aad (fun W (e:Ext w W)=>mW ht e);have Yy:=hs.trim;have ez:∀j,co (SM xs) j=co xs j:=amP xs;unfold aEn;have hq':∀j,co (SM xs) j≠0->QtP (aqR (co (SM xs) j)):=fun j=>by rw [ez];exact hq j
 have HQ:=aad hq';have HL:=aad aF4;have HSL:=aad Yy;clear hq hq' ez hs ht aF4 Yy;generalize SM xs=ys at *
 obtain ⟨cs,⟨A,c,rfl,aFD⟩,rfl⟩:=hv;clear aFD;show Calls Tryz.prog 11 #[.slice A xs.length c] w _;replace HT:Hid (Calls Tryz.prog 23 #[.slice A xs.length c] w fun e w'=>∃v,e = .returned v/\Ext w w'/\aq (fun _=>True) w' dX (.k (.list .q) ys) v):=HT;generalize xs.length=nx at *
 obtain ⟨R,hR⟩:∃R,R=(if ys.length=0 then (⟨#[48]⟩:ByteArray) else ⟨(txB ys ys.length).toArray⟩):=⟨_,rfl⟩
 rw [<-hR];have HR:=aad hR;clear hR;go_enter Tryz.func11,Tryz.ntmps11
 go_wp2_with fail
 refine (HT.out).mono ?_;rintro e w1 ⟨v',rfl,hx,hv⟩;have HX1:=aad hx;clear HT hx;by_cases h0:ys.length=0
 ·obtain ⟨cs,⟨A',c',rfl,aFD⟩,rfl⟩:=hv;clear aFD;have hr:=HR.out;rw [nM h0] at hr;subst hr;rw [h0,show pack (AV.k (.list .q) ys).row [Value.slice A' 0 c'] = .slice A' 0 c' from rfl];clear h0 HQ HL HSL HTB HR;go_wp2
  go_ret
  exact ⟨rfl,HX1.out⟩
 ·obtain ⟨g,off,c',rfl,hgl,aIZ⟩:=aIM hv (by omega);clear hv;have hr:=HR.out;rw [iS h0] at hr;have uM:=aad hr;clear HR hr;have aF4:=HL.out;have hni:(0:Int)<(ys.length:Int):=by omega
  have O9:(ys.length:Int)<=10:=by omega
  have hnz:((ys.length:Int) == 0)=false:=by rw [ky];omega
  have HN:=aad h0;have HG:=aad hgl;have HLI:=aad aIZ;clear h0 hgl aIZ aF4;generalize hn:ys.length=n at *
  have HNE:=aad hn;have HTL:=aad (fun m=>aF3 HQ.out m);clear hn;have HWS:Hid (∀W l (s:ByteArray),Lib.IsBuilder 68 5 w1.heap.size w1.heap.size (Lib.byteCells l) W->l.length+s.size<=100000000->Below w1.heap.size w1 W->Calls Tryz.prog 33 #[.pointer (some ⟨w1.heap.size,0,none⟩),.string s] W (fun e w'=>e = .returned (.tuple #[.int .i64 s.size,.nilIface])/\Lib.IsBuilder 68 5 w1.heap.size w1.heap.size (Lib.byteCells (l++s.data.toList)) w'/\Below w1.heap.size w1 w')):=aad (fun W l s h1 h2 h3=>by
   refine (aCj w1.heap.size w1.heap.size _ s W h1 (by rw [Lib.byteCells_length];omega) h3.size).mono ?_;rintro e w' ⟨rfl,uE,AO⟩;refine ⟨rfl,.inr ?_,h3.trans AO⟩;have e:Lib.strCells s=Lib.byteCells s.data.toList:=by unfold Lib.strCells Lib.byteCells;simp
   rw [Lib.byteCells_append, <- e];exact uE)
  go_wp2
  have HBD:=aad (Lib.fresh_isBuilder 68 5 w1);generalize hW3:w1.alloc (.cells #[.pointer none,.slice none 0 0] 68)=W3 at *
  have tq:Hid (Below w1.heap.size w1 W3):=aad (by rw [<-hW3];exact (Below.refl _ _).alloc (aV _) _);clear hW3;go_loopw [4] (fun z wr=>∃k:Nat,k<=n/\z = .int .i64 ((k:Int)-1)/\Hid (Lib.IsBuilder 68 5 w1.heap.size w1.heap.size (Lib.byteCells (txB ys (n-k))) wr)/\Hid (Below w1.heap.size w1 wr)) (fun z _=>(intOf z+1).toNat)
  case atStart=>refine ⟨n,aV _,rfl,aad ?_,tq⟩;rw [yn];exact HBD.out
  case round=>
   obtain ⟨k,hk,rfl,HB,HE⟩:=hrel;clear HBD tq;by_cases AG:k=0
   ·subst AG;have HS:=aad (Tryz.Builder_String_any w1.heap.size w1.heap.size _ wr HB.out HE.out.size);go_wp2_with fail
    refine (HS.out).mono ?_;rintro e w5 ⟨rfl,Zv⟩;have HX5:=aad Zv;clear Zv;go_wp2
    go_ret
    refine ⟨?_,Below.trans HX1.out (Below.mono (HE.out.trans HX5.out) HX1.out.size)⟩;rw [uM.out];rfl
   ·obtain ⟨j,rfl⟩:∃j,k=j+1:=⟨k-1,by omega⟩
    rw [show ((j+1:Nat):Int)-1=(j:Int) from by omega];have hjn:(j:Int)<(n:Int):=by omega
    have aMb:j<=9:=by omega
    have HTX:Hid (txB ys (n-j)=txB ys (n-(j+1))++pcB ys j):=aad (by have h:txB ys (n-(j+1)+1)=txB ys (n-(j+1))++pcB ys (ys.length-1-(n-(j+1))):=rfl;rw [HNE.out,show n-1-(n-(j+1))=j by omega,show n-(j+1)+1=n-j by omega] at h;exact h)
    have aF5:=aad (fun W (b:Below w1.heap.size w1 W)=>HTB.out W (Below.trans HX1.out (Below.mono b HX1.out.size)));have hix:∀W,(Instr.indexAt 22 (.slice (some ⟨g,off,none⟩) n c') (.int .i64 (j:Nat))).run Tryz.prog W = .ok (.pointer (some ⟨g,off+j*5,none⟩)) W:=fun W=>Ig (sz:=5) (i:=(j:Int)) (by kernel_rfl) ⟨by omega,by omega⟩;obtain ⟨c0,c1,c2,c3,c4,hq5⟩:∃c0 c1 c2 c3 c4,qC (co ys j)=[c0,c1,c2,c3,c4]:=⟨_,_,_,_,_,rfl⟩
    have ev:qCv (co ys j) = .agg #[c0,c1,c2,c3,c4]:=by show Value.agg (qC _).toArray=_;rw [hq5]
    have HLD:Hid (∀W,Below w1.heap.size w1 W->W.cell? ⟨g,off+j*5,none⟩=some c0/\W.cell? ⟨g,off+j*5+1,none⟩=some c1/\W.cell? ⟨g,off+j*5+2,none⟩=some c2/\W.cell? ⟨g,off+j*5+3,none⟩=some c3/\W.cell? ⟨g,off+j*5+4,none⟩=some c4):=aad (fun W b=>by have h:=aEJ (HLI.out j (by have:=HNE.out;omega)) HG.out b;rw [hq5] at h;exact ⟨h 0 (by simp),h 1 (by simp),h 2 (by simp),h 3 (by simp),h 4 (by simp)⟩)
    have HSG:Hid (∀W,Below w1.heap.size w1 W->Calls Tryz.prog 26 #[qCv (co ys j)] W fun e w'=>e = .returned (.int .i64 (co ys j).num.sign)/\Ext W w'):=aad (fun W b=>by refine Calls.mono (aF1 J0 rfl (HSL.out j) rfl W (aF5.out W b)) ?_;rintro e w' ⟨v,rfl,h1,h2⟩;rw [h2.int];exact ⟨rfl,h1⟩)
    have HAB:Hid (∀W,Below w1.heap.size w1 W->Calls Tryz.prog 35 #[qCv (co ys j)] W fun e w'=>e = .returned (qCv (aqR (co ys j)))/\Ext W w'):=aad (fun W b=>by refine Calls.mono (aF1 aHb rfl (HSL.out j) rfl W (aF5.out W b)) ?_;rintro e w' ⟨v,rfl,h1,⟨cs,h2,rfl⟩⟩;exact ⟨by rw [show cs=qC (aqR (co ys j)) from h2];rfl,h1⟩)
    have HTM:Hid (co ys j≠0->∀W,Below w1.heap.size w1 W->Calls Tryz.prog 34 #[qCv (aqR (co ys j)),.int .i64 (j:Nat)] W fun e w'=>e = .returned (.string (tmT (aqR (co ys j)) j))/\Ext W w'):=aad (fun h0 W b=>by refine Calls.mono (qV aIb (args:=[.k .q (aqR (co ys j)),.k (.int .i64) ((j:Nat):Int)]) rfl ⟨HQ.out j h0,aMb⟩ rfl (aF5.out W b) (vs:=[qCv (aqR (co ys j)),.int .i64 (j:Nat)]) ⟨⟨_,rfl,rfl⟩,.mkInt _ _,trivial⟩) ?_;rintro e w' ⟨v,rfl,h1,h2⟩;rw [h2.str];exact ⟨rfl,h1⟩)
    have HTT:Hid (co ys j≠0->(tmT (aqR (co ys j)) j).size<=600000):=aad (fun h0=>aF2 (HQ.out j h0));have tp:Hid ((txB ys (n-(j+1))).length<=60000000):=aad (by have:=HTL.out (n-(j+1));omega);have HPJ:Hid (pcB ys j=if co ys j=0 then [] else (if j+1=n then (if co ys j<0 then [45] else []) else if co ys j<0 then [32,45,32] else [32,43,32])++(tmT (aqR (co ys j)) j).data.toList):=aad (by rw [<-HNE.out];rfl);clear HTL HTB aF5 HLI HG HSL HQ uM;generalize txB ys (n-(j+1))=L0 at *
    generalize hL1:txB ys (n-j)=L1 at *
    have HL1:=aad hL1;clear hL1;generalize pcB ys j=PC at *
    generalize tmT (aqR (co ys j)) j=T at *
    rw [ev] at HSG HAB;clear ev hq5;generalize qCv (aqR (co ys j))=ax at *
    generalize hx:co ys j=x at *
    clear hx;obtain ⟨e0,e1,e2,e3,e4⟩:=HLD.out wr HE.out;by_cases vC:x=0
    ·have aBP:Hid (L1=L0):=aad (by
      have h:=HPJ.out;rw [nM vC] at h;rw [HTX.out,h,yt])
     have hs0:x.num.sign=0:=sign_zero.2 vC;rw [hs0] at HSG;clear HTX HPJ HTM HTT hs0 vC;go_wp2_with fail
     refine (HSG.out _ HE.out).mono ?_;rintro e w2 ⟨rfl,fP⟩;have nZ:=aad (apM HB.out fP);have xe:Hid (Below w1.heap.size w1 w2):=aad (HE.out.trans (Below.mono fP HE.out.size));obtain ⟨e0,e1,e2,e3,e4⟩:=HLD.out w2 xe.out;clear fP;go_wp2
     go_roundw
     case rel=>exact ⟨j,by omega,rfl,by rw [HL1.out,aBP.out];exact nZ,xe⟩
     case measure=>simp [intOf]
    ·have aF6:=aad (HTM.out vC);have aF7:=aad (HTT.out vC);by_cases hf:j+1=n
     ·have hfi:((j:Int) == (n:Int)-1)=true:=by rw [vw];omega
      by_cases hn:x<0
      ·have aBP:Hid (L1=L0++[45]++T.data.toList):=aad (by
        have h:=HPJ.out;rw [iS vC,nM hf,nM hn] at h;rw [HTX.out,h,pK])
       have hs0:x.num.sign = -1:=sign_neg hn;rw [hs0] at HSG;clear HTX HPJ HTM HTT hs0 vC hn hf;go_wp2_with fail
       refine (HSG.out _ HE.out).mono ?_;rintro e w2 ⟨rfl,fP⟩;have nZ:=aad (apM HB.out fP);have xe:Hid (Below w1.heap.size w1 w2):=aad (HE.out.trans (Below.mono fP HE.out.size));obtain ⟨e0,e1,e2,e3,e4⟩:=HLD.out w2 xe.out;clear fP;go_wp2_with fail
       refine (HSG.out _ xe.out).mono ?_;rintro e w3 ⟨rfl,hx3⟩;have Ja:=aad (apM nZ.out hx3);have uU:Hid (Below w1.heap.size w1 w3):=aad (xe.out.trans (Below.mono hx3 xe.out.size));obtain ⟨e0,e1,e2,e3,e4⟩:=HLD.out w3 uU.out;clear hx3;go_wp2_with fail
       refine (HWS.out _ _ (⟨#[45]⟩:ByteArray) Ja.out (by have:=tp.out;show L0.length+1<=_;omega) uU.out).mono ?_;rintro e w4 ⟨rfl,HB4,HE4⟩;have HB4:=aad HB4;have HE4:=aad HE4;obtain ⟨e0,e1,e2,e3,e4⟩:=HLD.out w4 HE4.out;go_wp2_with fail
       refine (HAB.out _ HE4.out).mono ?_;rintro e w4a ⟨rfl,aAy⟩;have aEK:=aad (apM HB4.out aAy);have aAz:Hid (Below w1.heap.size w1 w4a):=aad (HE4.out.trans (Below.mono aAy HE4.out.size));clear aAy;go_wp2_with fail
       refine (aF6.out _ aAz.out).mono ?_;rintro e w4b ⟨rfl,aAB⟩;have aEL:=aad (apM aEK.out aAB);have aEM:Hid (Below w1.heap.size w1 w4b):=aad (aAz.out.trans (Below.mono aAB aAz.out.size));clear aAB;go_wp2_with fail
       refine (HWS.out _ _ T aEL.out (by have:=tp.out;have:=aF7.out;rw [bu];show L0.length+1+T.size<=_;omega) aEM.out).mono ?_;rintro e w4c ⟨rfl,aCV,aCW⟩;have aEN:Hid (Lib.IsBuilder 68 5 w1.heap.size w1.heap.size (Lib.byteCells L1) w4c):=aad (by rw [aBP.out];exact aCV);have aEO:=aad aCW;clear aCV aCW;go_wp2
       go_roundw
       case rel=>exact ⟨j,by omega,rfl,by rw [HL1.out];exact aEN,aEO⟩
       case measure=>simp [intOf]
      ·have aBP:Hid (L1=L0++T.data.toList):=aad (by
        have h:=HPJ.out;rw [iS vC,nM hf,iS hn] at h;rw [HTX.out,h,wc])
       have hs0:x.num.sign=1:=aD6 vC hn;rw [hs0] at HSG;clear HTX HPJ HTM HTT hs0 vC hn hf;go_wp2_with fail
       refine (HSG.out _ HE.out).mono ?_;rintro e w2 ⟨rfl,fP⟩;have nZ:=aad (apM HB.out fP);have xe:Hid (Below w1.heap.size w1 w2):=aad (HE.out.trans (Below.mono fP HE.out.size));obtain ⟨e0,e1,e2,e3,e4⟩:=HLD.out w2 xe.out;clear fP;go_wp2_with fail
       refine (HSG.out _ xe.out).mono ?_;rintro e w3 ⟨rfl,hx3⟩;have Ja:=aad (apM nZ.out hx3);have uU:Hid (Below w1.heap.size w1 w3):=aad (xe.out.trans (Below.mono hx3 xe.out.size));obtain ⟨e0,e1,e2,e3,e4⟩:=HLD.out w3 uU.out;clear hx3;go_wp2_with fail
       refine (HAB.out _ uU.out).mono ?_;rintro e w3a ⟨rfl,aIi⟩;have aMc:=aad (apM Ja.out aIi);have aIj:Hid (Below w1.heap.size w1 w3a):=aad (uU.out.trans (Below.mono aIi uU.out.size));clear aIi;go_wp2_with fail
       refine (aF6.out _ aIj.out).mono ?_;rintro e w3b ⟨rfl,aIk⟩;have aMd:=aad (apM aMc.out aIk);have aMe:Hid (Below w1.heap.size w1 w3b):=aad (aIj.out.trans (Below.mono aIk aIj.out.size));clear aIk;go_wp2_with fail
       refine (HWS.out _ _ T aMd.out (by have:=tp.out;have:=aF7.out;omega) aMe.out).mono ?_;rintro e w3c ⟨rfl,aI0,aI1⟩;have aMf:Hid (Lib.IsBuilder 68 5 w1.heap.size w1.heap.size (Lib.byteCells L1) w3c):=aad (by rw [aBP.out];exact aI0);have aMg:=aad aI1;clear aI0 aI1;go_wp2
       go_roundw
       case rel=>exact ⟨j,by omega,rfl,by rw [HL1.out];exact aMf,aMg⟩
       case measure=>simp [intOf]
     ·have hfi:((j:Int) == (n:Int)-1)=false:=by rw [ky];omega
      by_cases hn:x<0
      ·have aBP:Hid (L1=L0++[32,45,32]++T.data.toList):=aad (by
        have h:=HPJ.out;rw [iS vC,iS hf,nM hn] at h;rw [HTX.out,h,pK])
       have hs0:x.num.sign = -1:=sign_neg hn;rw [hs0] at HSG;clear HTX HPJ HTM HTT hs0 vC hn hf;go_wp2_with fail
       refine (HSG.out _ HE.out).mono ?_;rintro e w2 ⟨rfl,fP⟩;have nZ:=aad (apM HB.out fP);have xe:Hid (Below w1.heap.size w1 w2):=aad (HE.out.trans (Below.mono fP HE.out.size));obtain ⟨e0,e1,e2,e3,e4⟩:=HLD.out w2 xe.out;clear fP;go_wp2_with fail
       refine (HSG.out _ xe.out).mono ?_;rintro e w3 ⟨rfl,hx3⟩;have Ja:=aad (apM nZ.out hx3);have uU:Hid (Below w1.heap.size w1 w3):=aad (xe.out.trans (Below.mono hx3 xe.out.size));obtain ⟨e0,e1,e2,e3,e4⟩:=HLD.out w3 uU.out;clear hx3;go_wp2_with fail
       refine (HWS.out _ _ (⟨#[32,45,32]⟩:ByteArray) Ja.out (by have:=tp.out;show L0.length+3<=_;omega) uU.out).mono ?_;rintro e w4 ⟨rfl,HB4,HE4⟩;have HB4:=aad HB4;have HE4:=aad HE4;obtain ⟨e0,e1,e2,e3,e4⟩:=HLD.out w4 HE4.out;go_wp2_with fail
       refine (HAB.out _ HE4.out).mono ?_;rintro e w4a ⟨rfl,aAy⟩;have aEK:=aad (apM HB4.out aAy);have aAz:Hid (Below w1.heap.size w1 w4a):=aad (HE4.out.trans (Below.mono aAy HE4.out.size));clear aAy;go_wp2_with fail
       refine (aF6.out _ aAz.out).mono ?_;rintro e w4b ⟨rfl,aAB⟩;have aEL:=aad (apM aEK.out aAB);have aEM:Hid (Below w1.heap.size w1 w4b):=aad (aAz.out.trans (Below.mono aAB aAz.out.size));clear aAB;go_wp2_with fail
       refine (HWS.out _ _ T aEL.out (by have:=tp.out;have:=aF7.out;rw [bu];show L0.length+3+T.size<=_;omega) aEM.out).mono ?_;rintro e w4c ⟨rfl,aCV,aCW⟩;have aEN:Hid (Lib.IsBuilder 68 5 w1.heap.size w1.heap.size (Lib.byteCells L1) w4c):=aad (by rw [aBP.out];exact aCV);have aEO:=aad aCW;clear aCV aCW;go_wp2
       go_roundw
       case rel=>exact ⟨j,by omega,rfl,by rw [HL1.out];exact aEN,aEO⟩
       case measure=>simp [intOf]
      ·have aBP:Hid (L1=L0++[32,43,32]++T.data.toList):=aad (by
        have h:=HPJ.out;rw [iS vC,iS hf,iS hn] at h;rw [HTX.out,h,pK])
       have hs0:x.num.sign=1:=aD6 vC hn;rw [hs0] at HSG;clear HTX HPJ HTM HTT hs0 vC hn hf;go_wp2_with fail
       refine (HSG.out _ HE.out).mono ?_;rintro e w2 ⟨rfl,fP⟩;have nZ:=aad (apM HB.out fP);have xe:Hid (Below w1.heap.size w1 w2):=aad (HE.out.trans (Below.mono fP HE.out.size));obtain ⟨e0,e1,e2,e3,e4⟩:=HLD.out w2 xe.out;clear fP;go_wp2_with fail
       refine (HSG.out _ xe.out).mono ?_;rintro e w3 ⟨rfl,hx3⟩;have Ja:=aad (apM nZ.out hx3);have uU:Hid (Below w1.heap.size w1 w3):=aad (xe.out.trans (Below.mono hx3 xe.out.size));obtain ⟨e0,e1,e2,e3,e4⟩:=HLD.out w3 uU.out;clear hx3;go_wp2_with fail
       refine (HWS.out _ _ (⟨#[32,43,32]⟩:ByteArray) Ja.out (by have:=tp.out;show L0.length+3<=_;omega) uU.out).mono ?_;rintro e w4 ⟨rfl,HB4,HE4⟩;have HB4:=aad HB4;have HE4:=aad HE4;obtain ⟨e0,e1,e2,e3,e4⟩:=HLD.out w4 HE4.out;go_wp2_with fail
       refine (HAB.out _ HE4.out).mono ?_;rintro e w4a ⟨rfl,aAy⟩;have aEK:=aad (apM HB4.out aAy);have aAz:Hid (Below w1.heap.size w1 w4a):=aad (HE4.out.trans (Below.mono aAy HE4.out.size));clear aAy;go_wp2_with fail
       refine (aF6.out _ aAz.out).mono ?_;rintro e w4b ⟨rfl,aAB⟩;have aEL:=aad (apM aEK.out aAB);have aEM:Hid (Below w1.heap.size w1 w4b):=aad (aAz.out.trans (Below.mono aAB aAz.out.size));clear aAB;go_wp2_with fail
       refine (HWS.out _ _ T aEL.out (by have:=tp.out;have:=aF7.out;rw [bu];show L0.length+3+T.size<=_;omega) aEM.out).mono ?_;rintro e w4c ⟨rfl,aCV,aCW⟩;have aEN:Hid (Lib.IsBuilder 68 5 w1.heap.size w1.heap.size (Lib.byteCells L1) w4c):=aad (by rw [aBP.out];exact aCV);have aEO:=aad aCW;clear aCV aCW;go_wp2
       go_roundw
       case rel=>exact ⟨j,by omega,rfl,by rw [HL1.out];exact aEN,aEO⟩
       case measure=>simp [intOf]
def aF8:az:=⟨11,false,on1 (.list .q) (fun xs=>some (TxP xs)) fun xs=>.k .str (aEn xs)⟩
theorem aFF:ah (cfg []) aF8:=nB (enters_of Tryz.func11 (by kernel_rfl) rfl) (fun _=>rfl) fun F xs u w hg ht hu=>Calls.mono (aFC xs hg w u ht (hu.ak (.aO (Ext.refl w)) (fun _ _ _=>trivial) fun _ _=>rfl)) fun e w' ⟨h1,h2⟩=>⟨_,h1,h2,.mkStr _⟩
end Go.Proofs.YtcjeabdblhgblaaGreatDoor.AM
