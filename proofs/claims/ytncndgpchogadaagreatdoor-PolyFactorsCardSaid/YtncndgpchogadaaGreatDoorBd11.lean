/- The base of the proof: contracts of functions, the engine that shows them, and mathematics. -/
import Derived.Lib.Builder
import Derived.Lib.AppendStr
import Derived.Test.YtncndgpchogadaaGreatDoorBd10
set_option maxRecDepth 100000
set_option linter.unusedVariables false
set_option linter.unusedSimpArgs false
set_option maxHeartbeats 8000000
namespace Go.Proofs.YtncndgpchogadaaGreatDoor.AM
open Go.RowKit
theorem aGk (f g h:Nat->Rat) (k:Nat):cvF f (fun i=>g i+h i) k=cvF f g k+cvF f h k:=by rw [at0,auf,at0 g,at0 h]
theorem azr (a:Rat) (f h:Nat->Rat) (k:Nat):cvF f (fun i=>a*h i) k=a*cvF f h k:=by rw [at0,apN,at0 h]
theorem aqq (f:Nat->Rat) (k:Nat):cvF (fun _=>0) f k=0:=acj fun i _=>uZ _
def aoH (f:Nat->Rat):Prop:=∃n,Deg f n
theorem aoH.add {f g:Nat->Rat} (hf:aoH f) (hg:aoH g):aoH fun i=>f i+g i:=by obtain ⟨n,hn⟩:=hf;obtain ⟨m,hm⟩:=hg;exact ⟨n+m,fun i hi=>by (try dsimp only);rw [hn i (by omega),hm i (by omega),yt]⟩
theorem aoH.smul {f:Nat->Rat} (a:Rat) (hf:aoH f):aoH fun i=>a*f i:=by obtain ⟨n,hn⟩:=hf;exact ⟨n,fun i hi=>by (try dsimp only);rw [hn i hi,xU]⟩
theorem aoH.cv {f g:Nat->Rat} (hf:aoH f) (hg:aoH g):aoH (cvF f g):=by obtain ⟨n,hn⟩:=hf;obtain ⟨m,hm⟩:=hg;exact ⟨_,hn.cv hm⟩
theorem aoH.zero:aoH fun _=>0:=⟨0,fun _ _=>rfl⟩
theorem aoH.one:aoH azW:=⟨1,fun i hi=>bF (by omega)⟩
theorem aoH.co (p:List Rat):aoH (co p):=⟨p.length,fun _ hi=>amN hi⟩
def Dv (g f:Nat->Rat):Prop:=∃h,aoH h/\∀k,f k=cvF h g k
def Mad (a b g:Nat->Rat):Prop:=∃u v,aoH u/\aoH v/\∀k,g k=cvF u a k+cvF v b k
theorem Dv.refl (f:Nat->Rat):Dv f f:=⟨azW,aoH.one,fun k=>(aAE f k).symm⟩
theorem Dv.zero (f:Nat->Rat):Dv f fun _=>0:=⟨fun _=>0,aoH.zero,fun k=>(aqq f k).symm⟩
theorem Dv.add {g a b:Nat->Rat} (ha:Dv g a) (hb:Dv g b):Dv g fun i=>a i+b i:=by obtain ⟨h,h1,h2⟩:=ha;obtain ⟨h',h3,h4⟩:=hb;exact ⟨_,h1.add h3,fun k=>by (try dsimp only);rw [auf, <- h2, <- h4]⟩
theorem Dv.smul {g a:Nat->Rat} (c:Rat) (ha:Dv g a):Dv g fun i=>c*a i:=by obtain ⟨h,h1,h2⟩:=ha;exact ⟨_,h1.smul c,fun k=>by (try dsimp only);rw [apN, <- h2]⟩
theorem Dv.mul {g a b:Nat->Rat} (hb:aoH b) (ha:Dv g a):Dv g (cvF b a):=by obtain ⟨h,h1,h2⟩:=ha;exact ⟨cvF b h,hb.cv h1,fun k=>by rw [aza];exact aoJ (fun _=>rfl) h2 k⟩
theorem Dv.congr {g a b:Nat->Rat} (ha:Dv g a) (e:∀k,b k=a k):Dv g b:=by obtain ⟨h,h1,h2⟩:=ha;exact ⟨h,h1,fun k=>(e k).trans (h2 k)⟩
theorem Dv.mad {g a b f:Nat->Rat} (ha:Dv g a) (hb:Dv g b) (hf:Mad a b f):Dv g f:=by obtain ⟨u,v,h1,h2,h3⟩:=hf;exact ((ha.mul h1).add (hb.mul h2)).congr h3
theorem aCz {p:List Rat} {n:Nat} (h:Deg (co p) n):(abR p).length<=n:=by
 rw [atA];rcases au n (lnP (co p) p.length) with h1 | h1
 ·exact absurd (h _ (by omega)) (au5 (n:=p.length) (by omega))
 ·exact h1
theorem aup {n:Nat} {f:Nat->Rat} (h:Deg f n) (k:Nat):co (aA n f) k=f k:=by
 rcases au k n with h1 | h1
 ·exact fW h1 0
 ·rw [amN (by rw [mX];exact h1),h k h1]
theorem at2 {p:List Rat}:Deg (co p) (abR p).length:=fun k hk=>by rw [<-amP];exact amN hk
def Tri (p:List Rat):Prop:=0<p.length->co p (p.length-1)≠0
theorem Tri.trim (p:List Rat):Tri (abR p):=fun h=>by rw [amP];rw [atA] at h ⊢;exact au5 h
theorem Tri.is {p:List Rat} (h:Tri p):abR p=p:=by
 have e:(abR p).length=p.length:=by rw [atA];exact aEh (fun i h1 h2=>absurd h1 (by omega)) (aV _) h
 refine Hf e fun i h1 h2=>?_;have:=amP p i;unfold co at this;rw [bD,bD,bX h1,bX h2] at this;exact this
def dvS (a b:List Rat):(Nat->Rat)×(Nat->Rat):=dqF (co b) b.length ((abR a).length+1-b.length) (co a)
def aoI (a b:List Rat):List Rat:=abR (aA ((abR a).length+1-b.length) (dvS a b).1)
def afM (a b:List Rat):List Rat:=abR (aA (abR a).length (dvS a b).2)
theorem aq0 {a b:List Rat} (hb:Tri b) (h0:0<b.length):(∀k,co a k=cvF (co (aoI a b)) (co b) k+co (afM a b) k)/\(afM a b).length<b.length:=by
 have hd:Deg (co a) ((abR a).length+1-b.length+b.length-1):=fun k hk=>at2 k (by omega);obtain ⟨h1,h2⟩:=aE3 (b:=co b) (m:=b.length) (fun _ hi=>amN hi) (hb h0) h0 _ _ hd;have hr:Deg (dvS a b).2 (abR a).length:=fun k hk=>by
  rcases au (abR a).length b.length with h | h
  ·unfold dvS;rw [show (abR a).length+1-b.length=0 by omega];exact at2 k hk
  ·exact h2 k (by omega)
 have er:∀k,co (afM a b) k=(dvS a b).2 k:=fun k=>by unfold afM;rw [amP,aup hr]
 have eq:∀k,co (aoI a b) k=(dvS a b).1 k:=fun k=>by unfold aoI;rw [amP,aup (show Deg (dvS a b).1 _ from aBA _ _ _ _)]
 refine ⟨fun k=>?_,?_⟩
 ·rw [er,aoJ eq (fun _=>rfl)];exact h1 k
 ·have:=aCz (p:=aA (abR a).length (dvS a b).2) (n:=b.length-1) fun k hk=>by rw [aup hr];exact h2 k hk
  show (abR _).length<_;omega
theorem as4 {x:Rat} (h:x≠0):x*(1/x)=1:=by rw [Da,xT,As _ h]
def apl (p:List Rat):List Rat:=abR (aA (abR p).length fun i=>co p i*(1/co p ((abR p).length-1)))
theorem aAF (p:List Rat) (k:Nat):co (apl p) k=1/co p ((abR p).length-1)*co p k:=by unfold apl;rw [amP,aup,ye];exact fun i hi=>by (try dsimp only);rw [at2 i hi,uZ]
theorem aqI (p:List Rat):(apl p).length=(abR p).length:=by
 unfold apl;rw [atA,mX];refine aEh (fun i h1 h2=>absurd h1 (by omega)) (aV _) fun h=>?_
 rw [aup fun i hi=>by (try dsimp only);rw [at2 i hi,uZ]];(try dsimp only);have h0:co p ((abR p).length-1)≠0:=by have:=Tri.trim p h;rwa [amP] at this
 rw [as4 h0];decide
def gcL:Nat->List Rat->List Rat->List Rat
 | 0,a,_=>a
 | n+1,a,b=>if b.length=0 then a else gcL n b (apl (afM a b))
theorem aFR {a b:List Rat} (h0:b.length=0):Dv (co a) (co a)/\Dv (co a) (co b)/\Mad (co a) (co b) (co a):=⟨Dv.refl _,(Dv.zero _).congr fun k=>amN (by omega),azW,fun _=>0,aoH.one,aoH.zero,fun k=>by rw [aAE,aqq,yt]⟩
theorem aHx:∀(n:Nat) {a b:List Rat},Tri b->b.length<=n->Dv (co (gcL n a b)) (co a)/\Dv (co (gcL n a b)) (co b)/\Mad (co a) (co b) (co (gcL n a b))
 | 0,a,b,_,hn=>aFR (by omega)
 | n+1,a,b,hb,hn=>by
  by_cases h0:b.length=0
  ·unfold gcL;rw [c6 h0];exact aFR h0
  unfold gcL;rw [bF h0];obtain ⟨h1,h2⟩:=aq0 (a:=a) hb (by omega);have hl:(apl (afM a b)).length<=n:=by rw [aqI,(show abR (afM a b)=afM a b from aur _)];omega
  have ht:Tri (apl (afM a b)):=Tri.trim _;obtain ⟨g1,g2,u,v,fu,fv,g3⟩:=aHx n (a:=b) ht hl;generalize hg:co (gcL n b (apl (afM a b)))=g at *
  have er:abR (afM a b)=afM a b:=aur _;have mc:=aAF (afM a b);rw [er] at mc;generalize hk:1/co (afM a b) ((afM a b).length-1)=c at mc;have hr:Dv g (co (afM a b)):=by
   by_cases hz:(afM a b).length=0
   ·exact (Dv.zero g).congr fun k=>amN (by omega)
   ·have hc:co (afM a b) ((afM a b).length-1)≠0:=by
     have:=Tri.trim (afM a b) (by rw [er];omega);rwa [er] at this
    refine (g2.smul (co (afM a b) ((afM a b).length-1))).congr fun k=>?_;rw [mc, <- hk, <- uB,as4 hc,xT]
  refine ⟨((g1.mul (aoH.co (aoI a b))).add hr).congr h1,g1,fun i=>c*v i,fun i=>u i+(-c)*cvF v (co (aoI a b)) i,fv.smul c,fu.add ((fv.cv (aoH.co _)).smul _),fun k=>?_⟩;rw [g3,apN,auf,apN,aza];have e1:cvF v (co (apl (afM a b))) k=c*cvF v (co (afM a b)) k:=by rw [aoJ (fun _=>rfl) mc,azr]
  have e2:cvF v (co a) k=cvF v (cvF (co (aoI a b)) (co b)) k+cvF v (co (afM a b)) k:=by rw [aoJ (fun _=>rfl) h1,aGk]
  rw [e1,e2];grind
theorem aoH.top {f:Nat->Rat} (hf:aoH f) (ay:∃i,f i≠0):∃n,Deg f (n+1)/\f n≠0:=by
 obtain ⟨n,hn⟩:=hf;obtain ⟨i,hi⟩:=ay;have h0:0<lnP f n:=sC fun e=>by
  rcases au i n with h | h
  ·exact hi (axc (by omega) h)
  ·exact hi (hn i h)
 refine ⟨lnP f n-1,fun j hj=>?_,au5 h0⟩;rcases au j n with h | h
 ·exact axc (by omega) h
 ·exact hn j h
theorem aDs {h g:Nat->Rat} {m:Nat} (hh:aoH h) (ay:∃i,h i≠0) (hg:Deg g (m+1)) (h0:g m≠0):∃n,h n≠0/\Deg h (n+1)/\cvF h g (n+m)≠0:=by obtain ⟨n,h1,h2⟩:=hh.top ay;refine ⟨n,h2,h1,?_⟩;rw [aFQ h1 hg];exact fun e=>(Cs.1 e).elim h2 h0
theorem aE4 {u v g:Nat->Rat} {m:Nat} (hu:aoH u) (hv:aoH v) (hg:Deg g (m+1)) (h0:g m≠0) (e:∀k,cvF u g k=cvF v g k) (k:Nat):u k=v k:=by refine kI fun ay=>?_;obtain ⟨n,_,_,h3⟩:=aDs (h:=fun i=>u i+(-1)*v i) (hu.add (hv.smul (-1))) ⟨k,fun h=>ay (by grind)⟩ hg h0;refine h3 ?_;rw [auf,apN,e];grind
theorem Tri.deg {g:List Rat} (h0:0<g.length):Deg (co g) (g.length-1+1):=fun _ hi=>amN (by omega)
theorem aAt {a b:List Rat} (hb:Tri b) (h0:0<b.length) (h:Dv (co b) (co a)):(afM a b).length=0/\∀k,co a k=cvF (co (aoI a b)) (co b) k:=by
 obtain ⟨h1,h2⟩:=aq0 (a:=a) hb h0;obtain ⟨q,f1,f2⟩:=h;have z:∀k,co (afM a b) k=0:=fun k=>kI fun hz=>by
  have e:∀k,co (afM a b) k=cvF (fun i=>q i+(-1)*co (aoI a b) i) (co b) k:=fun k=>by have:=h1 k;rw [f2] at this;rw [auf,apN,this];grind
  have ay:∃i,q i+(-1)*co (aoI a b) i≠0:=kI fun hn=>hz (by rw [e,aoJ (g':=co b) (fun i=>(kI fun hi=>hn ⟨i,hi⟩:q i+(-1)*co (aoI a b) i=0)) (fun _=>rfl)];exact aqq _ _)
  obtain ⟨n,_,_,h3⟩:=aDs (f1.add ((aoH.co (aoI a b)).smul (-1))) ay (Tri.deg h0) (hb h0);rw [<-e] at h3;exact h3 (amN (by omega))
 refine ⟨?_,fun k=>by rw [h1,z,yt]⟩;have h3:=Tri.trim (aA (abR a).length (dvS a b).2);rcases eB (afM a b).length with h | h
 ·exact h
 ·exact absurd (z _) (h3 h)
def ajJ (p q:List Rat):List Rat:=gcL (apl q).length (apl p) (apl q)
theorem aFS {g:Nat->Rat} {p:List Rat} (h:Dv g (co (apl p))):Dv g (co p):=by
 by_cases hz:(abR p).length=0
 ·exact (Dv.zero g).congr fun k=>by rw [<-amP];exact amN (by omega)
 ·have hc:co p ((abR p).length-1)≠0:=by have:=Tri.trim p (by omega);rwa [amP] at this
  exact (h.smul (co p ((abR p).length-1))).congr fun k=>by rw [aAF, <- uB,as4 hc,xT]
theorem aAI (p q:List Rat):Dv (co (ajJ p q)) (co p)/\Dv (co (ajJ p q)) (co q)/\Mad (co p) (co q) (co (ajJ p q)):=by obtain ⟨h1,h2,u,v,fu,fv,h3⟩:=aHx (apl q).length (a:=apl p) (b:=apl q) (Tri.trim _) (aV _);refine ⟨aFS h1,aFS h2,fun i=>1/co p ((abR p).length-1)*u i,fun i=>1/co q ((abR q).length-1)*v i,fu.smul _,fv.smul _,fun k=>?_⟩;show co (gcL _ _ _) k=_;rw [h3,apN,apN,aoJ (f':=u) (fun _=>rfl) (aAF p),azr,aoJ (f':=v) (fun _=>rfl) (aAF q),azr]
def Mon (p:List Rat):Prop:=0<p.length->co p (p.length-1)=1
theorem Mon.mk (p:List Rat):Mon (apl p):=fun h=>by
 rw [aqI] at h ⊢;have hc:co p ((abR p).length-1)≠0:=by have:=Tri.trim p h;rwa [amP] at this
 rw [aAF,ye,as4 hc]
theorem aFT:∀(n:Nat) {a b:List Rat},Mon a->Mon b->Tri a->Tri b->Mon (gcL n a b)/\Tri (gcL n a b)
 | 0,_,_,ha,_,ta,_=>⟨ha,ta⟩
 | n+1,a,b,ha,hb,ta,tb=>by
  unfold gcL;split
  ·exact ⟨ha,ta⟩
  ·exact aFT n hb (Mon.mk _) tb (Tri.trim _)
theorem au6 (p q:List Rat):Mon (ajJ p q)/\Tri (ajJ p q):=aFT _ (Mon.mk _) (Mon.mk _) (Tri.trim _) (Tri.trim _)
theorem aAu {p q:List Rat} {i:Nat} (h:co p i≠0):0<(ajJ p q).length:=by refine sC fun e=>h ?_;obtain ⟨f,_,h2⟩:=(aAI p q).1;rw [h2,aoJ (f':=f) (g':=fun _=>0) (fun _=>rfl) (fun k=>amN (by omega)),at0,aqq]
theorem aHy {a b:List Rat} (ha:Tri a) (hb:Tri b) (h:∀k,co a k=co b k):a=b:=by rw [<-ha.is, <- hb.is];exact aEz h
theorem as1 (a b:List Rat):Tri (afM a b):=Tri.trim _
theorem auN {a b r:List Rat} {h:Nat->Rat} (hb:Tri b) (h0:0<b.length) (fh:aoH h) (e:∀k,co a k=cvF h (co b) k+co r k) (hl:r.length<b.length) (hr:Tri r):afM a b=r:=by
 obtain ⟨h1,h2⟩:=aq0 (a:=a) hb h0;have z:∀k,h k=co (aoI a b) k:=fun k=>kI fun ay=>by obtain ⟨n,_,_,h3⟩:=aDs (h:=fun i=>h i+(-1)*co (aoI a b) i) (fh.add ((aoH.co _).smul (-1))) ⟨k,fun hz=>ay (by grind)⟩ (Tri.deg h0) (hb h0);rw [auf,apN] at h3;have e1:=e (n+(b.length-1));have e2:=h1 (n+(b.length-1));rw [amN (show r.length<=n+(b.length-1) by omega)] at e1;rw [amN (show (afM a b).length<=n+(b.length-1) by omega)] at e2;exact h3 (by grind)
 refine aHy (as1 a b) hr fun k=>?_;have e1:=e k;rw [aoJ z (fun _=>rfl)] at e1;have e2:=h1 k;grind
theorem aFU (a b:List Rat):(afM a b).length<=(abR a).length:=by have:=aBy (co (aA (abR a).length (dvS a b).2)) (aA (abR a).length (dvS a b).2).length;rw [<-atA,mX] at this;exact this
theorem aE5 {a b:List Rat} (ha:Tri a) (hb:Tri b) (h:a.length<b.length):afM a b=a:=auN hb (by omega) aoH.zero (fun k=>by rw [aqq,GC]) h ha
def sgR (a b:Nat):Rat:=if a%2=0/\b%2=0 then -1 else 1
def rsL:Nat->List Rat->List Rat->Rat
 | 0,a,b=>co a 0^(b.length-1)
 | n+1,a,b=>if a.length<=1 then co a 0^(b.length-1) else if (afM b a).length=0 then 0 else co a (a.length-1)^(b.length-(afM b a).length)*sgR a.length (afM b a).length*rsL n (afM b a) a
theorem atx {n:Nat} {a b:List Rat} (h:a.length<=1):rsL n a b=co a 0^(b.length-1):=by
 cases n with
 | zero=>rfl
 | succ n=>unfold rsL;rw [c6 h]
theorem aq2 {n:Nat} {a b:List Rat} (h:1<a.length) (hr:(afM b a).length≠0):rsL (n+1) a b=co a (a.length-1)^(b.length-(afM b a).length)*sgR a.length (afM b a).length*rsL n (afM b a) a:=by
 conv=>lhs;unfold rsL
 rw [bF (by omega),bF hr]
theorem as2 {n:Nat} {a b:List Rat} (h:1<a.length) (hr:(afM b a).length=0):rsL (n+1) a b=0:=by
 conv=>lhs;unfold rsL
 rw [bF (by omega),c6 hr]
theorem aBC:∀{n m:Nat} {a b:List Rat},Tri a->a.length<=n+1->a.length<=m+1->rsL n a b=rsL m a b
 | n,m,a,b,ta,hn,hm=>by
  by_cases h:a.length<=1
  ·rw [atx h,atx h]
  ·match n,m with
   | 0,_=>exact absurd hn (by omega)
   | _+1,0=>exact absurd hm (by omega)
   | n+1,m+1=>
    by_cases hr:(afM b a).length=0
    ·rw [as2 (by omega) hr,as2 (by omega) hr]
    ·have hl:=(aq0 (a:=b) ta (by omega)).2
     rw [aq2 (by omega) hr,aq2 (by omega) hr,aBC (n:=n) (m:=m) (as1 b a) (by omega) (by omega)]
 termination_by n=>n
structure Scl (c:Rat) (a a':List Rat):Prop where
 len:a'.length=a.length
 co:∀k,co a' k=c*co a k
theorem aDd {d a:List Rat} (hd:Tri d) (h0:0<d.length) (h:Dv (co d) (co a)) (ha:∃k,co a k≠0):d.length<=(abR a).length:=by
 obtain ⟨f,f1,f2⟩:=h;have ay:∃i,f i≠0:=kI fun hn=>by obtain ⟨k,hk⟩:=ha;rw [f2,aoJ (f':=fun _=>0) (g':=co d) (fun i=>kI fun hi=>hn ⟨i,hi⟩) (fun _=>rfl),aqq] at hk;exact hk rfl
 obtain ⟨n,_,_,h3⟩:=aDs f1 ay (Tri.deg h0) (hd h0);rw [<-f2] at h3;exact C0 fun aU=>h3 (at2 _ (by omega))
def Cm (n:Nat) (f:Nat->Rat):Prop:=∃D:Int,D≠0/\Sm n D.natAbs/\∀i,∃z:Int,Sm n z.natAbs/\f i*(D:Rat)=(z:Rat)
theorem au7 {D:Int} (h:D≠0):(D:Rat)≠0:=fun e=>h (K9.1 e)
theorem Cm.sq {n:Nat} {f:Nat->Rat} (h:Cm n f) (h1:1<=n) (i:Nat):Sq (n+n) (f i):=by obtain ⟨D,d0,dn,hf⟩:=h;obtain ⟨z,zn,e⟩:=hf i;have:=(Sq.int zn h1).div (Sq.int dn h1) (au7 d0);rw [<-e] at this;rwa [show f i*(D:Rat)/(D:Rat)=f i by rw [Da,uB,As _ (au7 d0),CY]] at this
theorem Cm.le {n m:Nat} {f:Nat->Rat} (h:Cm n f) (hm:n<=m):Cm m f:=by obtain ⟨D,d0,dn,hf⟩:=h;exact ⟨D,d0,dn.le hm,fun i=>by obtain ⟨z,zn,e⟩:=hf i;exact ⟨z,zn.le hm,e⟩⟩
theorem Cm.step {n m:Nat} {r b:Nat->Rat} (hr:Cm n r) (hb:Cm m b) {t u:Nat} (h0:b u≠0) (P:Nat->Prop) [DecidablePred P] (w:Nat->Nat) :
  Cm (n+m+1) fun k=>if P k then r k-r t/b u*b (w k) else r k:=by
 obtain ⟨D,d0,dn,hr⟩:=hr
 obtain ⟨E,e0,en,hb⟩:=hb
 obtain ⟨Bt,bn,eb⟩:=hb u
 obtain ⟨Rt,rn,et⟩:=hr t
 have bq:(Bt:Rat)≠0:=by rw [<-eb];exact fun e=>(Cs.1 e).elim h0 (au7 e0)
 have b0:Bt≠0:=fun e=>bq (by rw [e];rfl)
 refine ⟨D*Bt,Gj d0 b0,by rw [qZ];exact (dn.mul bn).le (by omega),fun k=>?_⟩
 obtain ⟨Rk,kn,ek⟩:=hr k
 (try dsimp only)
 split
 ·obtain ⟨Bk,ln,el⟩:=hb (w k)
  refine ⟨Rk*Bt-Rt*Bk,?_,?_⟩
  ·rw [Int.sub_eq_add_neg]
   exact ((show Sm (n+m) (Rk*Bt).natAbs by rw [qZ];exact kn.mul bn).S7 (show Sm (n+m) (-(Rt*Bk)).natAbs by rw [KM,qZ];exact rn.mul ln)).le (by omega)
  ·rw [La,px,px,px, <- ek, <- et, <- el, <- eb,Da]
   have:=As _ h0
   grind
 ·exact ⟨Rk*Bt,by rw [qZ];exact (kn.mul bn).le (by omega),by rw [px,px, <- ek];grind⟩
theorem Cm.over {n:Nat} {r:Nat->Rat} (hr:Cm n r) {t:Nat} (h0:r t≠0):Cm n fun k=>1/r t*r k:=by
 obtain ⟨D,d0,dn,hr⟩:=hr;obtain ⟨Rt,rn,et⟩:=hr t;have bq:(Rt:Rat)≠0:=by rw [<-et];exact fun e=>(Cs.1 e).elim h0 (au7 d0)
 refine ⟨Rt,fun e=>bq (by rw [e];rfl),rn,fun k=>?_⟩;obtain ⟨z,zn,e⟩:=hr k;refine ⟨z,zn,?_⟩;rw [<-e, <- et];have:=as4 h0;grind
theorem Sm.aHB {n:Nat} {z:Int} (h:Sm n z.natAbs) (h1:1<=n):∀k:Nat,Sm (k*n+1) (z^k).natAbs
 | 0=>by rw [Int.pow_zero];exact Sm.one.le (by omega)
 | k+1=>by rw [Int.pow_succ,qZ];exact ((Sm.aHB h h1 k).mul h).le (by rw [jV];omega)
theorem aED {b:Nat->Rat} {m nb:Nat} {E Bt:Int} (e0:E≠0) (en:Sm nb E.natAbs) (hb:∀k,∃z:Int,Sm nb z.natAbs/\b k*(E:Rat)=(z:Rat)) (b0:b (m-1)≠0) (bn:Sm nb Bt.natAbs) (eb:b (m-1)*(E:Rat)=(Bt:Rat)) :
  ∀(i:Nat) (r:Nat->Rat) (n:Nat) (D:Int),D≠0->(∀k,∃z:Int,Sm n z.natAbs/\r k*(D:Rat)=(z:Rat)) ->
   (∀k,∃z:Int,Sm (n+i*(nb+1)) z.natAbs/\(dqF b m i r).2 k*((D*Bt^i:Int):Rat)=(z:Rat))/\∀k,∃z:Int,Sm (n+i*(nb+1)+nb) z.natAbs/\(dqF b m i r).1 k*((D*Bt^i:Int):Rat)=(z:Rat)
 | 0,r,n,D,d0,hr=>⟨fun k=>by obtain ⟨z,h1,h2⟩:=hr k;refine ⟨z,h1.le (by omega),?_⟩;rw [Int.pow_zero,Int.mul_one];exact h2,fun k=>⟨0,Sm.zero _,by show (0:Rat)*_=_;rw [uZ];rfl⟩⟩
 | i+1,r,n,D,d0,hr=>by
  have bq:(Bt:Rat)≠0:=by rw [<-eb];exact fun e=>(Cs.1 e).elim b0 (au7 e0)
  have bz:Bt≠0:=fun e=>bq (by rw [e];rfl);obtain ⟨Rt,rn,et⟩:=hr (i+m-1);have hs:∀k,∃z:Int,Sm (n+nb+1) z.natAbs/\(if i<=k/\k<i+m then r k-r (i+m-1)/b (m-1)*b (k-i) else r k)*((D*Bt:Int):Rat)=(z:Rat):=fun k=>by
   obtain ⟨Rk,kn,ek⟩:=hr k;split
   ·obtain ⟨Bk,ln,el⟩:=hb (k-i);refine ⟨Rk*Bt-Rt*Bk,?_,?_⟩
    ·rw [Int.sub_eq_add_neg];exact ((show Sm (n+nb) (Rk*Bt).natAbs by rw [qZ];exact kn.mul bn).S7 (show Sm (n+nb) (-(Rt*Bk)).natAbs by rw [KM,qZ];exact rn.mul ln)).le (by omega)
    ·rw [La,px,px,px, <- ek, <- et, <- el, <- eb,Da];have:=As _ b0;grind
   ·exact ⟨Rk*Bt,by rw [qZ];exact (kn.mul bn).le (by omega),by rw [px,px, <- ek];grind⟩
  obtain ⟨h1,h2⟩:=aED e0 en hb b0 bn eb i _ (n+nb+1) (D*Bt) (Gj d0 bz) hs;have ep:D*Bt^(i+1)=D*Bt*Bt^i:=by rw [Int.pow_succ];rw [Int.mul_comm (Bt^i),Int.mul_assoc]
  have el:n+nb+1+i*(nb+1)=n+(i+1)*(nb+1):=by rw [jV];omega
  refine ⟨fun k=>?_,fun k=>?_⟩
  ·obtain ⟨z,z1,z2⟩:=h1 k;exact ⟨z,by rw [<-el];exact z1,by rw [ep];exact z2⟩
  ·by_cases e:k=i
   ·rw [show (dqF b m (i+1) r).1 k=r (i+m-1)/b (m-1) from c6 e];have hp:Sm (i*(nb+1)+1) (Bt^i).natAbs:=(Sm.aHB (bn.le (Nat.le_succ nb)) (by omega) i)
    refine ⟨Rt*E*Bt^i,?_,?_⟩
    ·rw [qZ,qZ];exact ((rn.mul en).mul hp).le (by rw [jV];omega)
    ·rw [ep,px,px,px,px, <- et, <- eb,Da];have:=As _ b0;grind
   ·rw [show (dqF b m (i+1) r).1 k=(dqF b m i fun t=>if i<=t/\t<i+m then r t-r (i+m-1)/b (m-1)*b (t-i) else r t).1 k from bF e];obtain ⟨z,z1,z2⟩:=h2 k;exact ⟨z,by rw [<-el];exact z1,by rw [ep];exact z2⟩
theorem Cm.dq {n nb m:Nat} {r b:Nat->Rat} (hr:Cm n r) (hb:Cm nb b) (b0:b (m-1)≠0) (i:Nat):Cm (n+i*(nb+1)+1) (dqF b m i r).2/\Cm (n+i*(nb+1)+nb+1) (dqF b m i r).1:=by
 obtain ⟨D,d0,dn,hr⟩:=hr;obtain ⟨E,e0,en,hb⟩:=hb;obtain ⟨Bt,bn,eb⟩:=hb (m-1);have bq:(Bt:Rat)≠0:=by rw [<-eb];exact fun e=>(Cs.1 e).elim b0 (au7 e0)
 have bz:Bt≠0:=fun e=>bq (by rw [e];rfl);obtain ⟨h1,h2⟩:=aED e0 en hb b0 bn eb i r n D d0 hr;have hp:Sm (i*(nb+1)+1) (Bt^i).natAbs:=(Sm.aHB (bn.le (Nat.le_succ nb)) (by omega) i)
 have hd:Sm (n+i*(nb+1)+1) (D*Bt^i).natAbs:=by rw [qZ];exact (dn.mul hp).le (by omega)
 have hz:D*Bt^i≠0:=Gj d0 (Int.pow_ne_zero bz);refine ⟨⟨_,hz,hd,fun k=>?_⟩,⟨_,hz,hd.le (by omega),fun k=>?_⟩⟩
 ·obtain ⟨z,z1,z2⟩:=h1 k;exact ⟨z,z1.le (by omega),z2⟩
 ·obtain ⟨z,z1,z2⟩:=h2 k;exact ⟨z,z1.le (by omega),z2⟩
theorem Cm.congr {n:Nat} {f g:Nat->Rat} (h:Cm n f) (e:∀k,g k=f k):Cm n g:=by rw [show g=f from funext e];exact h
theorem Cm.quo {n m:Nat} {a b:List Rat} (ha:Cm n (co a)) (hb:Cm m (co b)) (tb:Tri b) (h0:0<b.length):Cm (n+((abR a).length+1-b.length)*(m+1)+m+1) (co (aoI a b)):=by refine (ha.dq hb (tb h0) ((abR a).length+1-b.length)).2.congr fun k=>?_;unfold aoI;rw [amP,aup (show Deg (dvS a b).1 _ from aBA _ _ _ _)];rfl
theorem aIB {a b:List Rat} (tb:Tri b) (h0:0<b.length) (k:Nat):co (afM a b) k=(dvS a b).2 k:=by
 have hd:Deg (co a) ((abR a).length+1-b.length+b.length-1):=fun k hk=>at2 k (by omega);obtain ⟨_,h2⟩:=aE3 (b:=co b) (m:=b.length) (fun _ hi=>amN hi) (tb h0) h0 _ _ hd;have hr:Deg (dvS a b).2 (abR a).length:=fun k hk=>by
  rcases au (abR a).length b.length with h | h
  ·unfold dvS;rw [show (abR a).length+1-b.length=0 by omega];exact at2 k hk
  ·exact h2 k (by omega)
 unfold afM;rw [amP,aup hr]
theorem Cm.rem {n m:Nat} {a b:List Rat} (ha:Cm n (co a)) (hb:Cm m (co b)) (tb:Tri b) (h0:0<b.length):Cm (n+((abR a).length+1-b.length)*(m+1)+1) (co (afM a b)):=(ha.dq hb (tb h0) ((abR a).length+1-b.length)).1.congr fun k=>aIB tb h0 k
theorem Cm.zero {n:Nat} (h:1<=n):Cm n fun _=>0:=⟨1,by decide,Sm.one.le h,fun _=>⟨0,Sm.zero n,by rw [uZ];rfl⟩⟩
theorem Cm.nil {n:Nat} {a:List Rat} (h:1<=n) (h0:a.length=0):Cm n (co a):=(Cm.zero h).congr fun k=>amN (by omega)
theorem Cm.mon {n:Nat} {a:List Rat} (h:Cm n (co a)) (h1:1<=n):Cm n (co (apl a)):=by
 by_cases h0:(abR a).length=0
 ·exact Cm.nil h1 (by rw [aqI];exact h0)
 ·have hc:co a ((abR a).length-1)≠0:=by have:=Tri.trim a (by omega);rwa [amP] at this
  exact (h.over hc).congr (aAF a)
def pot (M la lb:Nat):Nat:=if lb<la then (M+2)*3^la else 2*(M+2)*3^lb
def EuS (U:Nat) (a b:List Rat):Prop:=∃M,1<=M/\Cm M (co a)/\Cm M (co b)/\pot M a.length b.length<=U
theorem aE7:∀e:Nat,e+3<=3^(e+1)
 | 0=>by decide
 | e+1=>by have:=aE7 e;rw [iP];omega
theorem aGs {M la lb lr:Nat} (h0:0<lb) (hl:lr<lb):pot (M+(la+1-lb)*(M+1)+1) lb lr<=pot M la lb:=by
 unfold pot;rw [c6 hl];rcases tU la lb with h | h | h
 ·rw [bF (by omega),show la+1-lb=0 by omega];exact cM _ (by omega)
 ·rw [bF (by omega),show la+1-lb=1 by omega];exact cM _ (by omega)
 ·rw [c6 h];obtain ⟨e,rfl⟩:∃e,la=lb+(e+1):=⟨la-lb-1,by omega⟩
  rw [show lb+(e+1)+1-lb=e+2 by omega,lM, <- iY,Gg];refine cM _ (iR ?_ (dz (M+2) (aE7 e)));have:(e+2)*(M+1)=e*(M+1)+2*(M+1):=jV ..;have h2:(M+2)*(e+3)=e*(M+1)+e+3*(M+2):=by rw [q9,eM (M+2) e,eM (M+2) 3,show e*(M+2)=e*(M+1)+e by rw [show M+2=M+1+1 from rfl,Nat.mul_succ]]
  omega
theorem aDU {M la lb U:Nat} (h0:0<lb) (h:pot M la lb<=U):3*(M+(la+1-lb)*(M+1)+M+2)<=2*U:=by
 unfold pot at h;have p3:3<=3^lb:=by have:=eJ (show 0<3 by decide) h0;rwa [G5] at this
 rcases tU la lb with hl | hl | hl
 ·rw [bF (by omega)] at h;rw [show la+1-lb=0 by omega];have:=dz (2*(M+2)) p3;omega
 ·rw [bF (by omega)] at h;rw [show la+1-lb=1 by omega];have:=dz (2*(M+2)) p3;omega
 ·rw [c6 hl] at h;obtain ⟨e,rfl⟩:∃e,la=lb+(e+1):=⟨la-lb-1,by omega⟩
  rw [show lb+(e+1)+1-lb=e+2 by omega];rw [lM, <- iY] at h;have h1:=dz (M+2) p3;have h2:=tO h1 (aE7 e);have:(e+2)*(M+1)=e*(M+1)+2*(M+1):=jV ..;have h3:(M+2)*3*(e+3)=3*(e*(M+1))+3*e+9*(M+2):=by rw [Gg,q9,eM (M+2) e,show e*(M+2)=e*(M+1)+e by rw [show M+2=M+1+1 from rfl,Nat.mul_succ]];omega
  omega
theorem EuS.step {U:Nat} {a b:List Rat} (h:EuS U a b) (ta:Tri a) (tb:Tri b) (h0:0<b.length):EuS U b (apl (afM a b))/\EuS U b (afM a b):=by obtain ⟨M,h1,ha,hb,hU⟩:=h;have hr:=ha.rem hb tb h0;rw [ta.is] at hr;have hl:=(aq0 (a:=a) tb h0).2;have er:abR (afM a b)=afM a b:=aur _;have hp:=iR (aGs (M:=M) (la:=a.length) h0 hl) hU;exact ⟨⟨_,by omega,hb.le (by omega),hr.mon (by omega),by rw [aqI,er];exact hp⟩,⟨_,by omega,hb.le (by omega),hr,hp⟩⟩
theorem aHC:∀(n:Nat) {U:Nat} {a b:List Rat},Tri a->Tri b->0<a.length->b.length<=n->EuS U a b->∃N,1<=N/\Cm N (co (gcL n a b))/\(N+2)*3^(gcL n a b).length<=U
 | 0,U,a,b,ta,tb,h0,hn,⟨M,h1,ha,hb,hU⟩=>⟨M,h1,ha,by unfold pot at hU;rw [c6 (by omega)] at hU;exact hU⟩
 | n+1,U,a,b,ta,tb,h0,hn,h=>by
  by_cases hz:b.length=0
  ·unfold gcL;rw [c6 hz];obtain ⟨M,h1,ha,hb,hU⟩:=h;exact ⟨M,h1,ha,by unfold pot at hU;rw [c6 (by omega)] at hU;exact hU⟩
  ·unfold gcL;rw [bF hz];have hl:=(aq0 (a:=a) tb (by omega)).2;have er:abR (afM a b)=afM a b:=aur _;exact aHC n tb (Tri.trim _) (by omega) (by rw [aqI,er];omega) (h.step ta tb (by omega)).1
theorem BQp:1<=BQ:=by unfold BQ;omega
theorem aCU (xs:List Rat):abR xs=xs.take (lnP (co xs) xs.length):=by have hl:=aBy (co xs) xs.length;refine fp 0 (by rw [atA,gU];omega) fun i hi=>?_;rw [atA] at hi;rw [getD_take hi];exact fW hi 0
theorem SL.trim {k:Nat} {xs:List Rat} (h:SL k xs):SL k (abR xs):=fun i=>by show Sq k (co (abR xs) i);rw [amP];exact h i
theorem Cm.sl {n:Nat} {xs:List Rat} (h:Cm n (co xs)) (h1:1<=n):SL (n+n) xs:=fun i=>h.sq h1 i
theorem auw (xs:List Rat):(abR xs).length<=xs.length:=by rw [atA];exact aBy _ _
noncomputable def LO1:List az:=Nj::xM::Wk::Cb::aa5::[]
theorem aFY:bd LO1:=⟨J0,pJ,Qx,tA,V5,trivial⟩
def foTrm:List AV->Option (Option Prop×AV×List Ob)
 | [.k (.list .q) xs]=>some (some (SL BQ xs),.k (.list .q) (abR xs),[])
 | _=>none
def aE8:az:=⟨53,false,foTrm⟩
def aHD (xs:List Rat):bk:=⟨nU,fun key_=>match key_ with
 | 2=>some (⟨Nat,fun n=>[(0,.k (.list .q) xs),(3,.k (.int .i64) ((n:Nat):Int))],fun n=>[],fun _ n=>n<=xs.length/\lnP (co xs) n=lnP (co xs) xs.length,fun n=>n⟩) | _=>none,nR,nU⟩
def aE9 (xs:List Rat):Prop:=xs.length<=aB->∃(x0:Nat),(xs=xs/\(↑xs.length:Int)=(↑x0:Int))/\(x0<=xs.length/\lnP (co xs) x0=lnP (co xs) xs.length)/\∀(x:Nat),
 let u1:=some (↑x:Int);x<=xs.length/\lnP (co xs) x=lnP (co xs) xs.length->bif decide ((0:Int)<(↑x:Int)) then amE ((↑x:Int)-(1:Int))/\((0:Int) <=
 (↑x:Int)-(1:Int)/\(↑x:Int)-(1:Int)<(↑xs.length:Int))/\Sq BQ (xs.getD ((↑x:Int)-(1:Int)).toNat (0:Rat))/\bif decide ((xs.getD ((↑x:Int)-(1 :
 Int)).toNat (0:Rat)).num.sign=(0:Int)) then amE ((↑x:Int)-(1:Int))/\∃(x':Nat),(xs=xs/\(↑x:Int)-(1:Int)=(↑x':Int))/\(x'<=xs.length/\lnP
 (co xs) x'=lnP (co xs) xs.length)/\x'<x else rz xs.length none u1 u1/\cutL xs none u1=abR xs else rz xs.length none u1 u1/\cutL xs none u1=abR xs
theorem aGt (xs:List Rat):aw LO1 [] (aHD xs) Tryz.f53 (.k (.list .q) (abR xs)) [.k (.list .q) xs]=aE9 xs:=by kernel_rfl
theorem aGu (xs:List Rat) (hg:SL BQ xs):aE9 xs:=by
 unfold aE9;intro hL;have stop:∀n:Nat,n<=xs.length->lnP (co xs) n=lnP (co xs) xs.length->lnP (co xs) n=n->rz xs.length none (some (n:Int)) (some (n:Int))/\cutL xs none (some (n:Int))=abR xs:=fun n h0 h1 h2=>by refine ⟨⟨by omega,by omega,by omega⟩,?_⟩;show xs.take ((n:Int)).toNat=_;rw [aCU, <- h1,h2];rfl
 refine ⟨xs.length,⟨rfl,rfl⟩,⟨aV _,rfl⟩,fun n ⟨hn,hl⟩=>aH (fun h=>?_) fun h=>?_⟩
 ·obtain ⟨m,rfl⟩:∃m,n=m+1:=⟨n-1,by omega⟩
  have e:(((m+1:Nat):Int)-1).toNat=m:=by omega
  rw [e];unfold aB at hL;refine ⟨⟨by omega,by omega⟩,⟨by omega,by omega⟩,hg m,aH (fun h2=>?_) fun h2=>stop _ hn hl (bF fun h3=>h2 (sign_zero.2 h3))⟩;have h3:co xs m=0:=sign_zero.1 h2;exact ⟨⟨by omega,by omega⟩,m,⟨rfl,by omega⟩,⟨by omega,(c6 h3).symm.trans hl⟩,by omega⟩
 ·have e:n=0:=by omega
  subst e;exact stop 0 (by omega) hl rfl
theorem aCB:ah (cfg []) aE8:=fnK aFY bp Tryz.func53 (by kernel_rfl) fun args g r hn hc hg hf=>by
 replace hc:foTrm args=some (g,r,hn):=hc;unfold foTrm at hc;split at hc
 ·obtain ⟨rfl,rfl,rfl⟩:=aN hc;cases aY (aGt _) (aGu _ hg);exact ⟨rfl,by kernel_rfl,_,by assumption⟩
 ·cases hc
noncomputable def LO2:List az:=aE8::LO1
theorem azu:bd LO2:=⟨aCB,aFY⟩
def aFa:List AV->Option (Option Prop×AV×List Ob)
 | [.k (.list .q) xs]=>some (some (SL BQ xs),.own 0 0 5,[.arr 44 .q (abR xs)])
 | _=>none
def aHE:az:=⟨35,false,aFa⟩
def aHF (xs:List Rat):bk:=⟨nU,nL,nR,nU⟩
def aFb (xs:List Rat):Prop:=
 let t1:=(↑(abR xs).length:Int);
 SL BQ xs/\((abR xs).length<=aB->((0:Int)<=t1/\t1<=t1/\t1<=(1099511627776:Int))/\(List.replicate t1.toNat (0:Rat)).length=(abR xs).length/\abR xs
 = abR xs)
theorem aGv (xs:List Rat):awp (cfg LO2 []) (aHF xs) Tryz.f35.ntmps (Tryz.f35.body.getD .skip) (jj Tryz.f35.results.toList (.own 0 0 5) 8 (.arr 44 .q (abR xs))) ⟨aDw 0 [.k (.list .q) xs],[]⟩=aFb xs:=by kernel_rfl
theorem aGw (xs:List Rat) (hg:SL BQ xs):aFb xs:=by
 unfold aFb;refine ⟨hg,fun hL=>⟨?_,?_,rfl⟩⟩
 ·unfold aB at hL;exact ⟨by omega,Le _,by omega⟩
 ·rw [tS];rfl
theorem aGx:ah (cfg []) aHE:=oY azu bp Tryz.func35 (by kernel_rfl) (by kernel_rfl) rfl fun args g r hn hc hg hf=>by
 replace hc:aFa args=some (g,r,hn):=hc;unfold aFa at hc;split at hc
 ·obtain ⟨rfl,rfl,rfl⟩:=aN hc;have hv:=aGw _ hg
  cases aY (aGv _) hv;exact ⟨by kernel_rfl,_,8,_,rfl,rfl,rfl,by assumption⟩
 ·cases hc
def aFc:List AV->Option (Option Prop×AV×List Ob)
 | [.k (.list .q) xs]=>some (some (SL BQ xs),.k (.list .q) (abR xs),[])
 | _=>none
def aFd:az:=⟨35,false,aFc⟩
def aHG (xs:List Rat):bk:=⟨nU,nL,nR,nU⟩
def aFe (xs:List Rat):Prop:=
 let t1:=(↑(abR xs).length:Int);
 SL BQ xs/\((abR xs).length<=aB->((0:Int)<=t1/\t1<=t1/\t1<=(1099511627776:Int))/\(List.replicate t1.toNat (0:Rat)).length=(abR xs).length/\abR xs
 = abR xs)
theorem aGy (xs:List Rat):aw LO2 [] (aHG xs) Tryz.f35 (.k (.list .q) (abR xs)) [.k (.list .q) xs]=aFe xs:=by kernel_rfl
theorem aGz (xs:List Rat) (hg:SL BQ xs):aFe xs:=by
 unfold aFe;refine ⟨hg,fun hL=>⟨?_,?_,rfl⟩⟩
 ·unfold aB at hL;exact ⟨by omega,Le _,by omega⟩
 ·rw [tS];rfl
theorem aDV:ah (cfg []) aFd:=fnK azu bp Tryz.func35 (by kernel_rfl) fun args g r hn hc hg hf=>by
 replace hc:aFc args=some (g,r,hn):=hc;unfold aFc at hc;split at hc
 ·obtain ⟨rfl,rfl,rfl⟩:=aN hc;cases aY (aGy _) (aGz _ hg);exact ⟨rfl,by kernel_rfl,_,by assumption⟩
 ·cases hc
noncomputable def LO3:List az:=aFd::LO2
theorem aIC:bd LO3:=⟨aDV,azu⟩
def foScl:List AV->Option (Option Prop×AV×List Ob)
 | [.k (.list .q) xs,.k .q k]=>some (some (SL BQ xs/\Sq BQ k/\∀i,Sq BQ (xs.getD i 0*k)),.k (.list .q) (abR (aA xs.length fun i=>xs.getD i 0*k)),[])
 | _=>none
def aHJ:az:=⟨68,false,foScl⟩
def aHK (xs:List Rat) (k:Rat):bk:=⟨nU,fun key_=>match key_ with
 | 3=>some (⟨Nat,fun i=>[(3,.pt 3 0 5 0 0),(5,.own 10 0 5),(11,.k (.list .q) xs),(12,.k (.int .i64) ((xs.length:Nat):Int)),(13,.k (.int .i64) ((i:Nat):Int))],
 fun i=>[(3,.box 44 (.k .q k)),(10,.arr 44 .q (aA xs.length fun t=>if t<i then xs.getD t 0*k else 0))],fun _ i=>i<=xs.length,fun i=>xs.length-i⟩) | _=>none,nR,nU⟩
def aFh (xs:List Rat) (k:Rat):Prop:=xs.length<=aB->((0:Int)<=(↑xs.length:Int)/\(↑xs.length:Int)<=(↑xs.length:Int)/\(↑xs.length:Int)<=(1099511627776:Int))/\(xs.length<=aB->∃(x0 :
 Nat),((xs=xs/\(↑xs.length:Int)=(↑xs.length:Int)/\(0:Int)=(↑x0:Int))/\k=k/\List.replicate (↑xs.length:Int).toNat (0:Rat)=aA xs.length fun (t :
 Nat)=>if t<x0 then xs.getD t (0:Rat)*k else (0:Rat))/\x0<=xs.length/\∀(x:Nat),x<=xs.length->bif decide ((↑x:Int)<(↑xs.length:Int)) then ((0 :
 Int)<=(↑x:Int)/\(↑x:Int)<(↑xs.length:Int))/\(Sq BQ (xs.getD (↑x:Int).toNat (0:Rat))/\Sq BQ k)/\((0:Int)<=(↑x:Int)/\(↑x:Int)<(↑(aA xs.length
 fun (t:Nat)=>if t<x then xs.getD t (0:Rat)*k else (0:Rat)).length:Int))/\(↑x:Int).toNat<(aA xs.length fun (t:Nat)=>if t<x then xs.getD t (0 :
 Rat)*k else (0:Rat)).length/\amE ((↑x:Int)+(1:Int))/\∃(x':Nat),((xs=xs/\(↑xs.length:Int)=(↑xs.length:Int)/\(↑x:Int)+(1:Int)=(↑x' :
 Int))/\k=k/\(aA xs.length fun (t:Nat)=>if t<x then xs.getD t (0:Rat)*k else (0:Rat)).set (↑x:Int).toNat (xs.getD (↑x:Int).toNat (0:Rat)*k)=aA
 xs.length fun (t:Nat)=>if t<x' then xs.getD t (0:Rat)*k else (0:Rat))/\x'<=xs.length/\xs.length-x'<xs.length-x else SL BQ (aA xs.length fun (t :
 Nat)=>if t<x then xs.getD t (0:Rat)*k else (0:Rat))/\abR (aA xs.length fun (t:Nat)=>if t<x then xs.getD t (0:Rat)*k else (0:Rat))=abR (aA
 xs.length fun (i:Nat)=>xs.getD i (0:Rat)*k))
theorem aGD (xs:List Rat) (k:Rat):aw LO3 [] (aHK xs k) Tryz.f68 (.k (.list .q) (abR (aA xs.length fun i=>xs.getD i 0*k))) [.k (.list .q) xs,.k .q k]=aFh xs k:=by kernel_rfl
theorem aGE (xs:List Rat) (k:Rat) (hg:SL BQ xs/\Sq BQ k/\∀i,Sq BQ (xs.getD i 0*k)):aFh xs k:=by
 unfold aFh;obtain ⟨h1,h2,h3⟩:=hg;intro hL;refine ⟨by unfold aB at hL;exact ⟨by omega,Le _,by omega⟩,fun _=>⟨0,⟨⟨rfl,rfl,rfl⟩,rfl,?_⟩,fK _,fun i hi=>aH (fun h=>?_) fun h=>?_⟩⟩
 ·exact (iO _ _).trans (bE fun t _=>(bF (pN t)).symm)
 ·have cw:i<xs.length:=by omega
  refine ⟨idx h,⟨h1 i,h2⟩,by rw [mX];exact idx h,by rw [mX];exact cw,nQ cw hL,i+1,⟨⟨rfl,rfl,rfl⟩,rfl,?_⟩,by omega,by omega⟩;rw [show ((i:Nat):Int).toNat=i from rfl,mY cw];refine bE fun t _=>?_;rcases tU t i with h5 | h5 | h5
  ·rw [bF (by omega),c6 h5,c6 (by omega)]
  ·rw [c6 h5,c6 (by omega),h5]
  ·rw [bF (by omega),bF (by omega),bF (by omega)]
 ·have e:(aA xs.length fun t=>if t<i then xs.getD t 0*k else 0)=aA xs.length fun t=>xs.getD t 0*k:=bE fun t ht=>c6 (by omega);rw [e];exact ⟨SL.mk (fun t _=>h3 t) BQp,rfl⟩
theorem aGF:ah (cfg []) aHJ:=fnK aIC bp Tryz.func68 (by kernel_rfl) fun args g r hn hc hg hf=>by
 replace hc:foScl args=some (g,r,hn):=hc;unfold foScl at hc;split at hc
 ·obtain ⟨rfl,rfl,rfl⟩:=aN hc;cases aY (aGD _ _) (aGE _ _ hg);exact ⟨rfl,by kernel_rfl,_,by assumption⟩
 ·cases hc
noncomputable def LO4:List az:=aHJ::LO2
theorem aID:bd LO4:=⟨aGF,azu⟩
def aFi:List AV->Option (Option Prop×AV×List Ob)
 | [.k (.list .q) xs]=>some (some (∃n,1<=n/\Cm n (co xs)/\2*n+1<=BQ),.k (.list .q) (apl xs),[])
 | _=>none
def aHL:az:=⟨50,false,aFi⟩
def aHM (xs:List Rat):bk:=⟨fun key_=>match key_ with | 4=>12 | _=>0,nL,nR,nU⟩
def aFj (xs:List Rat):Prop:=
 let t1:=(↑(abR xs).length:Int);
 let t2:=(↑(1:Int):Rat)/(abR xs).getD (t1-(1:Int)).toNat (0:Rat);
 SL BQ xs/\((abR xs).length<=aB->bif decide (t1=(0:Int)) then apl xs=[] else amE (1:Int)/\amE (t1-(1:Int))/\((0:Int)<=t1-(1:Int)/\t1-(1 :
 Int)<t1)/\(Sq BQ (↑(1:Int):Rat)/\Sq BQ ((abR xs).getD (t1-(1:Int)).toNat (0:Rat)))/\(SL BQ (abR xs)/\Sq BQ t2/\∀(i:Nat),Sq BQ ((abR xs).getD i
 (0:Rat)*t2))/\abR (aA (abR xs).length fun (i:Nat)=>(abR xs).getD i (0:Rat)*t2)=apl xs)
theorem aGG (xs:List Rat):aw LO4 [] (aHM xs) Tryz.f50 (.k (.list .q) (apl xs)) [.k (.list .q) xs]=aFj xs:=by kernel_rfl
theorem aGH (xs:List Rat) (hg:∃n,1<=n/\Cm n (co xs)/\2*n+1<=BQ):aFj xs:=by
 unfold aFj;dsimp only;obtain ⟨n,h1,hc,hB⟩:=hg;have hs:=hc.sl h1;refine ⟨hs.le (by omega),fun hL=>aH (fun h=>?_) fun h=>?_⟩
 ·have e:(apl xs).length=0:=by rw [aqI];omega
  exact dw e
 ·have h0:0<(abR xs).length:=by omega
  have e:(((abR xs).length:Int)-1).toNat=(abR xs).length-1:=by omega
  have ay:co xs ((abR xs).length-1)≠0:=by have:=Tri.trim xs h0;rwa [amP] at this
  have ec:(abR xs).getD ((abR xs).length-1) 0=co xs ((abR xs).length-1):=amP xs _;rw [e,ec];have o1:Sq 1 ((1:Int):Rat):=Sq.int Sm.one (aV 1);have hd:=o1.div (hc.sq h1 ((abR xs).length-1)) ay;have hp:∀i,(abR xs).getD i 0*(((1:Int):Rat)/co xs ((abR xs).length-1))=1/co xs ((abR xs).length-1)*co xs i:=fun i=>by rw [show (abR xs).getD i 0=co xs i from amP xs i,ye];rfl
  refine ⟨⟨by omega,by omega⟩,by unfold aB at hL;exact ⟨by omega,by omega⟩,⟨by omega,by omega⟩,⟨o1.le BQp,(hc.sq h1 _).le (by omega)⟩,⟨(hs.le (by omega)).trim,hd.le (by omega),fun i=>by rw [hp i];exact ((hc.over ay).sq h1 i).le (by omega)⟩,?_⟩;unfold apl;refine Aw abR (bE fun i _=>?_);rw [hp i,ye]
theorem aGI:ah (cfg []) aHL:=fnK aID bp Tryz.func50 (by kernel_rfl) fun args g r hn hc hg hf=>by
 replace hc:aFi args=some (g,r,hn):=hc;unfold aFi at hc;split at hc
 ·obtain ⟨rfl,rfl,rfl⟩:=aN hc;cases aY (aGG _) (aGH _ hg);exact ⟨rfl,by kernel_rfl,_,by assumption⟩
 ·cases hc
theorem cvC (f g:Nat->Rat):cvF f g=cvF g f:=funext fun k=>at0 f g k
theorem cvA (f g h:Nat->Rat):cvF (cvF f g) h=cvF f (cvF g h):=funext fun k=>aza f g h k
theorem cv1 (f:Nat->Rat):cvF azW f=f:=funext fun k=>aAE f k
theorem cvL (f g h:Nat->Rat):cvF f (cvF g h)=cvF g (cvF f h):=by rw [<-cvA,cvC f g,cvA]
theorem Dv.iff {g f:Nat->Rat}:Dv g f↔∃h,aoH h/\f=cvF h g:=⟨fun ⟨h,a,b⟩=>⟨h,a,funext b⟩,fun ⟨h,a,b⟩=>⟨h,a,fun k=>by rw [b]⟩⟩
theorem Dv.trans {a b c:Nat->Rat} (h:Dv a b) (k:Dv b c):Dv a c:=by obtain ⟨u,u1,rfl⟩:=Dv.iff.1 h;obtain ⟨v,v1,rfl⟩:=Dv.iff.1 k;exact Dv.iff.2 ⟨cvF v u,v1.cv u1,(cvA ..).symm⟩
def Dg (f:Nat->Rat) (n:Nat):Prop:=Deg f (n+1)/\f n≠0
theorem Dg.fin {f:Nat->Rat} {n:Nat} (h:Dg f n):aoH f:=⟨_,h.1⟩
theorem Dg.mul {f g:Nat->Rat} {n m:Nat} (h:Dg f n) (k:Dg g m):Dg (cvF f g) (n+m):=⟨fun i hi=>h.1.cv k.1 i (by omega),by rw [aFQ h.1 k.1];exact fun e=>(Cs.1 e).elim h.2 k.2⟩
theorem Dg.uniq {f:Nat->Rat} {n m:Nat} (h:Dg f n) (k:Dg f m):n=m:=by
 rcases tU n m with l | l | l
 ·exact absurd (h.1 m (by omega)) k.2
 ·exact l
 ·exact absurd (k.1 n (by omega)) h.2
theorem Dg.of {f:Nat->Rat} (hf:aoH f) (ay:∃i,f i≠0):∃n,Dg f n:=hf.top ay
theorem aKq {h g:Nat->Rat} {n:Nat} (hh:aoH h) (e:Dg (cvF h g) n):∃m,Dg h m:=Dg.of hh (kI fun hn=>e.2 (by rw [show h=fun _=>0 from funext fun i=>kI fun hi=>hn ⟨i,hi⟩];exact aqq _ _))
theorem Dg.split {h g:Nat->Rat} {n m:Nat} (hh:aoH h) (e:Dg (cvF h g) n) (hg:Dg g m):m<=n/\Dg h (n-m):=by obtain ⟨j,hj⟩:=aKq hh e;have:=(hj.mul hg).uniq e;exact ⟨by omega,by rw [show n-m=j by omega];exact hj⟩
theorem Dg.le {f g:Nat->Rat} {n m:Nat} (hf:Dg f n) (hg:Dg g m) (h:Dv g f):m<=n:=by obtain ⟨u,u1,rfl⟩:=Dv.iff.1 h;exact (Dg.split u1 hf hg).1
theorem Dg.one:Dg azW 0:=⟨fun i hi=>bF (by omega),by unfold azW;rw [c6 rfl];decide⟩
theorem aJ8 {f:Nat->Rat} (h:Dg f 0):f=fun i=>f 0*azW i:=funext fun i=>by
 unfold azW;by_cases e:i=0
 ·rw [c6 e,CY,e]
 ·rw [bF e,xU];exact h.1 i (by omega)
theorem Dv.aMT {f g:Nat->Rat} {c:Rat} (hc:c≠0) (h:Dv g f):Dv (fun i=>c*g i) f:=by obtain ⟨u,u1,rfl⟩:=Dv.iff.1 h;refine ⟨fun i=>1/c*u i,u1.smul _,fun k=>?_⟩;rw [apN,azr, <- uB,ye (1/c),as4 hc,xT]
theorem Dv.aIS {f g:Nat->Rat} {c:Rat} (hc:c≠0) (h:Dv g fun i=>c*f i):Dv g f:=(h.smul (1/c)).congr fun k=>by rw [<-uB,ye (1/c),as4 hc,xT]
theorem aLb {a b:Nat->Rat} (ha:aoH a) (hb:aoH b):∃g,aoH g/\Dv g a/\Dv g b/\Mad a b g:=by obtain ⟨n,hn⟩:=ha;obtain ⟨m,hm⟩:=hb;have h:=aAI (aA n a) (aA m b);rw [show co (aA n a)=a from funext fun k=>aup hn k,show co (aA m b)=b from funext fun k=>aup hm k] at h;exact ⟨_,aoH.co _,h⟩
def Irr (q:Nat->Rat):Prop:=∃n,0<n/\Dg q n/\∀a b,aoH a->aoH b->q=cvF a b->Dg a 0\/Dg b 0
theorem Irr.dg {q:Nat->Rat} (h:Irr q):∃n,0<n/\Dg q n:=by obtain ⟨n,h1,h2,_⟩:=h;exact ⟨n,h1,h2⟩
theorem Irr.or {q a b:Nat->Rat} (h:Irr q) (ha:aoH a) (hb:aoH b) (hd:Dv q (cvF a b)):Dv q a\/Dv q b:=by
 obtain ⟨n,n0,hq,hs⟩:=h;obtain ⟨g,g1,g2,g3,u,v,fu,fv,g4⟩:=aLb hq.fin ha;obtain ⟨t,t1,t2⟩:=Dv.iff.1 g2;rcases hs t g t1 g1 t2 with h1 | h1
 ·refine .inl (Dv.trans ?_ g3);rw [t2,aJ8 h1,show cvF (fun i=>t 0*azW i) g=fun i=>t 0*g i from funext fun k=>by rw [apN,aAE]];exact (Dv.refl g).aMT h1.2
 ·right;have e:g=fun k=>cvF u q k+cvF v a k:=funext g4
  have e2:Dv q (cvF g b):=by rw [e,show cvF (fun k=>cvF u q k+cvF v a k) b=fun k=>cvF (cvF u b) q k+cvF v (cvF a b) k from funext fun k=>by rw [auf,cvA,cvA,cvA,cvC q b]];exact ((Dv.refl q).mul (fu.cv hb)).add (hd.mul fv)
  rw [aJ8 h1,show cvF (fun i=>g 0*azW i) b=fun i=>g 0*b i from funext fun k=>by rw [apN,aAE]] at e2;exact e2.aIS h1.2
theorem aIh:∀(n:Nat) {f:Nat->Rat},0<n->Dg f n->∃q,Irr q/\Dv q f
 | n,f,h0,hf=>by
  by_cases h:∀a b,aoH a->aoH b->f=cvF a b->Dg a 0\/Dg b 0
  ·exact ⟨f,⟨n,h0,hf,h⟩,Dv.refl f⟩
  ·have ⟨a,b,ha,hb,e,h1,h2⟩:∃a b,aoH a/\aoH b/\f=cvF a b/\¬Dg a 0/\¬Dg b 0:=kI fun hn=>h fun a b ha hb e=>kI fun ho=>hn ⟨a,b,ha,hb,e,fun x=>ho (.inl x),fun x=>ho (.inr x)⟩;subst e;obtain ⟨i,hi⟩:=aKq ha hf;have hf':=hf;rw [cvC] at hf';obtain ⟨j,hj⟩:=aKq hb hf';have:=(hi.mul hj).uniq hf;have YF:i≠0:=fun e=>h1 (by rw [e] at hi;exact hi);have qi:j≠0:=fun e=>h2 (by rw [e] at hj;exact hj);obtain ⟨q,q1,q2⟩:=aIh i (by omega) hi;exact ⟨q,q1,by rw [cvC];exact q2.mul hb⟩
def pwF (q:Nat->Rat):Nat->Nat->Rat
 | 0=>azW
 | k+1=>cvF (pwF q k) q
theorem aEf (q:Nat->Rat) (i:Nat):∀j,pwF q (i+j)=cvF (pwF q i) (pwF q j)
 | 0=>by rw [show i+0=i from rfl,cvC];exact (cv1 _).symm
 | j+1=>by show cvF (pwF q (i+j)) q=cvF _ (cvF (pwF q j) q);rw [aEf q i j,cvA]
theorem aoH.pw {q:Nat->Rat} (h:aoH q):∀k,aoH (pwF q k)
 | 0=>aoH.one
 | k+1=>(aoH.pw h k).cv h
theorem Dg.pw {q:Nat->Rat} {n:Nat} (h:Dg q n):∀k,Dg (pwF q k) (k*n)
 | 0=>by rw [tT];exact Dg.one
 | k+1=>by rw [jV,qY];exact (Dg.pw h k).mul h
def Val (q f:Nat->Rat) (k:Nat):Prop:=∃h,aoH h/\¬Dv q h/\f=cvF (pwF q k) h
theorem Val.ex {q:Nat->Rat} (hq:Irr q):∀(n:Nat) {f:Nat->Rat},Dg f n->∃k,Val q f k
 | n,f,hf=>by
  by_cases h:Dv q f
  ·obtain ⟨u,u1,rfl⟩:=Dv.iff.1 h;obtain ⟨m,m0,hm⟩:=hq.dg;obtain ⟨_,hu⟩:=Dg.split u1 hf hm;have:=(Dg.split u1 hf hm).1;obtain ⟨k,t,t1,t2,t3⟩:=Val.ex hq (n-m) hu;exact ⟨k+1,t,t1,t2,by rw [t3];show _=cvF (cvF (pwF q k) q) t;rw [cvA,cvA,cvC t q]⟩
  ·exact ⟨0,f,hf.fin,h,(cv1 f).symm⟩
 termination_by n=>n
theorem aKI {u v g:Nat->Rat} {m:Nat} (hu:aoH u) (hv:aoH v) (hg:Dg g m) (e:cvF g u=cvF g v):u=v:=funext fun k=>aE4 hu hv hg.1 hg.2 (fun k=>by rw [cvC u,cvC v,e]) k
theorem Val.dv {q f:Nat->Rat} {k m:Nat} (hq:Irr q) (h:Val q f k):Dv (pwF q m) f↔m<=k:=by
 obtain ⟨t,t1,t2,rfl⟩:=h;obtain ⟨n,n0,hn⟩:=hq.dg;constructor
 ·intro hd;refine C0 fun aU=>t2 ?_;obtain ⟨u,u1,u2⟩:=Dv.iff.1 hd;obtain ⟨d,rfl⟩:∃d,m=k+(1+d):=⟨m-k-1,by omega⟩
  rw [aEf,aEf,cvL] at u2;have:=aKI t1 (u1.cv ((hn.fin.pw 1).cv (hn.fin.pw d))) (hn.pw k) u2;rw [this];have e1:pwF q 1=q:=cv1 q;rw [e1,cvC q, <- cvA];exact (Dv.refl q).mul (u1.cv (hn.fin.pw d))
 ·intro hle;obtain ⟨d,rfl⟩:∃d,k=m+d:=⟨k-m,by omega⟩
  rw [aEf,cvA,cvC];exact (Dv.refl _).mul ((hn.fin.pw d).cv t1)
theorem Val.uniq {q f:Nat->Rat} {k m:Nat} (hq:Irr q) (h:Val q f k) (g:Val q f m):k=m:=by have h1:=(h.dv hq (m:=m)).1 ((g.dv hq).2 (aV m));have h2:=(g.dv hq (m:=k)).1 ((h.dv hq).2 (aV k));omega
theorem Val.mul {q a b:Nat->Rat} {i j:Nat} (hq:Irr q) (ha:Val q a i) (hb:Val q b j):Val q (cvF a b) (i+j):=by obtain ⟨s,s1,s2,rfl⟩:=ha;obtain ⟨t,t1,t2,rfl⟩:=hb;refine ⟨cvF s t,s1.cv t1,fun h=>(hq.or s1 t1 h).elim s2 t2,?_⟩;rw [aEf,cvA,cvA,cvL s]
theorem Val.pos {q f:Nat->Rat} {k:Nat} (hq:Irr q) (h:Val q f k):Dv q f↔1<=k:=by rw [<-h.dv hq,show pwF q 1=q from cv1 q]
theorem Val.zero {q f:Nat->Rat} (hf:aoH f) (h:¬Dv q f):Val q f 0:=⟨f,hf,h,(cv1 f).symm⟩
theorem aJ9 (f g:Nat->Rat):dvF (cvF f g)=fun k=>cvF (dvF f) g k+cvF f (dvF g) k:=funext fun k=>aMR f g k
theorem aoH.dv {f:Nat->Rat} (h:aoH f):aoH (dvF f):=by obtain ⟨n,hn⟩:=h;exact ⟨n,fun i hi=>by unfold dvF;rw [hn (i+1) (by omega),xU]⟩
theorem Dg.dv {f:Nat->Rat} {n:Nat} (h:Dg f (n+1)):Dg (dvF f) n:=⟨fun i hi=>by unfold dvF;rw [h.1 (i+1) (by omega),xU],fun e=>(Cs.1 e).elim (fun e=>absurd (GW.1 (show ((n+1:Nat):Rat)=((0:Nat):Rat) from e)) (by omega)) h.2⟩
theorem aKJ (q:Nat->Rat):∀k,dvF (pwF q (k+1))=fun i=>((k+1:Nat):Rat)*cvF (pwF q k) (dvF q) i
 | 0=>by show dvF (cvF azW q)=_;rw [cv1];show _=fun i=>_*cvF azW _ i;rw [cv1];funext i;rw [show ((0+1:Nat):Rat)=1 from rfl,xT]
 | k+1=>by
  show dvF (cvF (pwF q (k+1)) q)=_;rw [aJ9,aKJ q k];funext i;rw [apN];have e:cvF (cvF (pwF q k) (dvF q)) q i=cvF (pwF q (k+1)) (dvF q) i:=by show _=cvF (cvF (pwF q k) q) (dvF q) i;rw [cvA,cvA,cvC q]
  rw [e,show ((k+1+1:Nat):Rat)=((k+1:Nat):Rat)+1 from Gp ..];grind
theorem Val.aKK {q f:Nat->Rat} {k:Nat} (hq:Irr q) (h:Val q f (k+1)):Val q (dvF f) k:=by
 obtain ⟨t,t1,t2,rfl⟩:=h;obtain ⟨n,n0,hn⟩:=hq.dg;obtain ⟨n',rfl⟩:∃n',n=n'+1:=⟨n-1,by omega⟩
 have hd:=hn.dv;refine ⟨fun i=>((k+1:Nat):Rat)*cvF (dvF q) t i+cvF q (dvF t) i,((hd.fin.cv t1).smul _).add (hn.fin.cv t1.dv),fun h=>?_,?_⟩
 ·have h1:Dv q fun i=>((k+1:Nat):Rat)*cvF (dvF q) t i:=by
   have h2:Dv q (cvF q (dvF t)):=by rw [cvC];exact (Dv.refl q).mul t1.dv
   exact (h.add (h2.smul (-1))).congr fun i=>by grind
  rcases hq.or hd.fin t1 (h1.aIS fun e=>absurd (GW.1 (show ((k+1:Nat):Rat)=((0:Nat):Rat) from e)) (by omega)) with h3 | h3
  ·have:=Dg.le hd hn h3;omega
  ·exact t2 h3
 ·rw [aJ9,aKJ];funext i;rw [apN,aGk,azr,cvA];congr 1;show cvF (cvF (pwF q k) q) (dvF t) i=_;rw [cvA]
theorem Val.gcd {q a b g:Nat->Rat} {i j:Nat} {n:Nat} (hq:Irr q) (ha:Val q a i) (hb:Val q b j) (h1:Dv g a) (h2:Dv g b) (h3:Mad a b g) (hg:Dg g n):Val q g (min i j):=by obtain ⟨k,hk⟩:=Val.ex hq n hg;have l1:=(ha.dv hq (m:=k)).1 (((hk.dv hq).2 (aV k)).trans h1);have l2:=(hb.dv hq (m:=k)).1 (((hk.dv hq).2 (aV k)).trans h2);have l3:=(hk.dv hq (m:=min i j)).1 (((ha.dv hq).2 (K8 ..)).mad ((hb.dv hq).2 (Nat.min_le_right ..)) h3);rw [show min i j=k by omega];exact hk
def aqQ (a b:List Rat):List Rat:=if (abR b).length=0 then [] else aoI a (abR b)
def apU (a b:List Rat):List Rat:=if (abR b).length=0 then [] else afM a (abR b)
def ovL (a b:List Rat):List Rat:=apl (aqQ a b)
theorem aEk {a:List Rat} (ta:Tri a) (h0:0<a.length):Dg (co a) (a.length-1):=⟨Tri.deg h0,ta h0⟩
theorem aIE {a:List Rat} {n:Nat} (ta:Tri a) (h:Dg (co a) n):a.length=n+1:=by
 rcases eB a.length with h0 | h0
 ·exact absurd (amN (by omega)) h.2
 ·have:=(aEk ta h0).uniq h;omega
theorem aDW {a b:List Rat} (tb:Tri b) (h0:0<b.length):aqQ a b=aoI a b:=by unfold aqQ;rw [tb.is,bF (by omega)]
theorem aAJ {a b:List Rat} (tb:Tri b) (h0:0<b.length):apU a b=afM a b:=by unfold apU;rw [tb.is,bF (by omega)]
theorem aJE {a:List Rat} (ta:Tri a) (k:Nat):co (apl a) k=1/co a (a.length-1)*co a k:=by rw [aAF,ta.is]
theorem aJ0 {a b:List Rat} (tb:Tri b) (mb:Mon b) (hb:0<b.length) (ha:0<(abR a).length) (h:Dv (co b) (co a)) :
  Tri (ovL a b)/\Mon (ovL a b)/\(ovL a b).length+b.length=(abR a).length+1/\∀k,co a k=co a ((abR a).length-1)*cvF (co (ovL a b)) (co b) k:=by
 obtain ⟨_,e⟩:=aAt tb hb h
 have da:Dg (co a) ((abR a).length-1):=by have:=aEk (Tri.trim a) ha;rwa [show co (abR a)=co a from funext (amP a)] at this
 have db:=aEk tb hb
 have tq:Tri (aoI a b):=Tri.trim _
 have e':co a=cvF (co (aoI a b)) (co b):=funext e
 have hs:=Dg.split (aoH.co (aoI a b)) (by rw [<-e'];exact da) db
 have lq:=aIE tq hs.2
 have ho:ovL a b=apl (aoI a b):=by unfold ovL;rw [aDW tb hb]
 have top:co a ((abR a).length-1)=co (aoI a b) ((aoI a b).length-1):=by have h1:=aFQ (f:=co (aoI a b)) (g:=co b) (n:=(aoI a b).length-1) (m:=b.length-1) (Tri.deg (by omega)) db.1;rw [mb hb,CY, <- e,show (aoI a b).length-1+(b.length-1)=(abR a).length-1 by omega] at h1;exact h1
 have h0:co (aoI a b) ((aoI a b).length-1)≠0:=tq (by omega)
 refine ⟨by rw [ho];exact Tri.trim _,by rw [ho];exact Mon.mk _,by rw [ho,aqI,tq.is];omega,fun k=>?_⟩
 rw [ho,aoJ (aJE tq) (fun _=>rfl),apN,top, <- uB,as4 h0,xT,e]
theorem aJt {a b:List Rat} (ta:Tri a) (ma:Mon a) (tb:Tri b) (mb:Mon b) (ha:0<a.length) (hb:0<b.length) (h:Dv (co b) (co a)) :
  Tri (ovL a b)/\Mon (ovL a b)/\(ovL a b).length+b.length=a.length+1/\co a=cvF (co (ovL a b)) (co b):=by
 obtain ⟨h1,h2,h3,h4⟩:=aJ0 tb mb hb (by rw [ta.is];exact ha) h
 rw [ta.is] at h3
 refine ⟨h1,h2,h3,funext fun k=>?_⟩
 rw [h4 k,ta.is,ma ha,xT]
theorem Val.aLo {q f:Nat->Rat} {k:Nat} {c:Rat} (hc:c≠0) (h:Val q f k):Val q (fun i=>c*f i) k:=by obtain ⟨t,t1,t2,rfl⟩:=h;exact ⟨fun i=>c*t i,t1.smul c,fun h=>t2 (h.aIS hc),funext fun i=>(azr c _ t i).symm⟩
theorem Val.quo {q a b x:Nat->Rat} {i j n:Nat} (hq:Irr q) (ha:Val q a i) (hb:Val q b j) (hx:Dg x n) (e:a=cvF x b):Val q x (i-j):=by obtain ⟨k,hk⟩:=Val.ex hq n hx;have:=(hk.mul hq hb).uniq hq (by rw [<-e];exact ha);rw [show i-j=k by omega];exact hk
theorem aKa {a b:List Rat} (ta:Tri a) (ma:Mon a) (tb:Tri b) (mb:Mon b) (ha:0<a.length) (hb:0<b.length) (h:∀q k m,Irr q->Val q (co a) k->Val q (co b) m->k=m):a=b:=by
 obtain ⟨g1,g2,g3⟩:=aAI a b;obtain ⟨mg,tg⟩:=au6 a b;have hg:=aAu (q:=b) (ta ha);have key:∀{c:List Rat},Tri c->Mon c->0<c.length->Dv (co (ajJ a b)) (co c)->(∀q k m,Irr q->Val q (co c) k->Val q (co (ajJ a b)) m->k<=m)->c=ajJ a b:=by
  intro c tc mc hc hd hv;obtain ⟨h1,h2,h3,h4⟩:=aJt tc mc tg mg hc hg hd;have l0:0<(ovL c (ajJ a b)).length:=by have:=Dg.le (aEk tc hc) (aEk tg hg) hd;omega
  have l1:(ovL c (ajJ a b)).length=1:=kI fun ay=>by obtain ⟨q,q1,q2⟩:=aIh _ (show 0<(ovL c (ajJ a b)).length-1 by omega) (aEk h1 l0);obtain ⟨k,hk⟩:=Val.ex q1 _ (aEk h1 l0);obtain ⟨m,hm⟩:=Val.ex q1 _ (aEk tg hg);have h5:=(hk.pos q1).1 q2;have h6:=hk.mul q1 hm;rw [<-h4] at h6;have:=hv q _ _ q1 h6 hm;omega
  refine aHy tc tg fun k=>?_;rw [h4,aoJ (f':=azW) (fun i=>?_) (fun _=>rfl),aAE];unfold azW;by_cases e:i=0
  ·rw [c6 e,e];have:=h2 l0;rwa [l1] at this
  ·rw [bF e];exact amN (by omega)
 have hv:∀q k m,Irr q->Val q (co (ajJ a b)) m->(Val q (co a) k->k<=m)/\(Val q (co b) k->k<=m):=by intro q k m hq hm;obtain ⟨i,hi⟩:=Val.ex hq _ (aEk ta ha);obtain ⟨j,hj⟩:=Val.ex hq _ (aEk tb hb);have e:=h q i j hq hi hj;have:=(Val.gcd hq hi hj g1 g2 g3 (aEk tg hg)).uniq hq hm;exact ⟨fun hk=>by have:=hk.uniq hq hi;omega,fun hk=>by have:=hk.uniq hq hj;omega⟩
 rw [key ta ma ha g1 fun q k m hq hk hm=>(hv q k m hq hm).1 hk];exact (key tb mb hb g2 fun q k m hq hk hm=>(hv q k m hq hm).2 hk).symm
def auM (p:List Rat):List Rat:=abR (aA ((abR p).length-1) fun i=>co p (i+1)*((i+1:Nat):Rat))
theorem aJu (p:List Rat):co (auM p)=dvF (co p):=funext fun k=>by
 unfold auM;rw [amP,aup]
 ·unfold dvF;rw [ye]
 ·exact fun i hi=>by (try dsimp only);rw [at2 (i+1) (by omega),uZ]
def aAv:Nat->List Rat->List Rat->List (List Rat)
 | 0,_,_=>[]
 | n+1,f,r=>if f.length<=1 then [] else ovL f (ajJ f r)::aAv n (ajJ f r) (ovL r (ajJ f r))
def frL (p:List Rat):List Rat:=ovL p (ajJ p (auM p))
def aAw (p:List Rat):List (List Rat):=aAv p.length (frL p) (ajJ p (auM p))
structure FcI (p:List Rat) (i:Nat) (f r:List Rat):Prop where
 tf:Tri f
 tr:Tri r
 mf:Mon f
 mr:Mon r
 lf:0<f.length
 lr:0<r.length
 val:∀q k,Irr q->Val q (co p) k->Val q (co f) (if i<k then 1 else 0)/\Val q (co r) (k-(i+1))
structure FcS (p:List Rat) (i:Nat) (f r:List Rat):Prop where
 next:FcI p (i+1) (ajJ f r) (ovL r (ajJ f r))
 len:(ovL r (ajJ f r)).length+(ajJ f r).length=r.length+1
 lf:(ovL f (ajJ f r)).length+(ajJ f r).length=f.length+1
 tri:Tri (ovL f (ajJ f r))
 mon:Mon (ovL f (ajJ f r))
 pos:0<(ovL f (ajJ f r)).length
 val:∀q k,Irr q->Val q (co p) k->Val q (co (ovL f (ajJ f r))) (if k=i+1 then 1 else 0)
theorem FcI.step {p f r:List Rat} {i:Nat} (h:FcI p i f r):FcS p i f r:=by
 obtain ⟨g1,g2,g3⟩:=aAI f r;obtain ⟨mg,tg⟩:=au6 f r;have hg:=aAu (q:=r) (h.tf h.lf);obtain ⟨a1,a2,a3,a4⟩:=aJt h.tf h.mf tg mg h.lf hg g1;obtain ⟨b1,b2,b3,b4⟩:=aJt h.tr h.mr tg mg h.lr hg g2;have l1:=Dg.le (aEk h.tf h.lf) (aEk tg hg) g1;have l2:=Dg.le (aEk h.tr h.lr) (aEk tg hg) g2;have q1:=h.lf;have q2:=h.lr;have vg:∀q k,Irr q->Val q (co p) k->Val q (co (ajJ f r)) (if i+1<k then 1 else 0):=fun q k hq hk=>by
  obtain ⟨v1,v2⟩:=h.val q k hq hk;have:=Val.gcd hq v1 v2 g1 g2 g3 (aEk tg hg);rwa [show min (if i<k then 1 else 0) (k-(i+1))=if i+1<k then 1 else 0 by
   by_cases e:i+1<k
   ·rw [c6 e,c6 (show i<k by omega)];omega
   ·rw [bF e];split <;> omega] at this
 refine ⟨⟨tg,b1,mg,b2,hg,by omega,fun q k hq hk=>⟨vg q k hq hk,?_⟩⟩,b3,a3,a1,a2,by omega,fun q k hq hk=>?_⟩
 ·have:=Val.quo hq (h.val q k hq hk).2 (vg q k hq hk) (aEk b1 (by omega)) b4;rwa [show k-(i+1)-(if i+1<k then 1 else 0)=k-(i+1+1) by split <;> omega] at this
 ·have:=Val.quo hq (h.val q k hq hk).1 (vg q k hq hk) (aEk a1 (by omega)) a4;rwa [show (if i<k then 1 else 0)-(if i+1<k then 1 else 0)=if k=i+1 then 1 else 0 by
   by_cases e:k=i+1
   ·rw [c6 (show i<k by omega),bF (show ¬i+1<k by omega),c6 e]
   ·rw [bF e];split <;> split <;> omega] at this
theorem FcI.start {p:List Rat} (h0:0<(abR p).length):FcI p 0 (frL p) (ajJ p (auM p)):=by
 obtain ⟨g1,g2,g3⟩:=aAI p (auM p);obtain ⟨mg,tg⟩:=au6 p (auM p);have dp:Dg (co p) ((abR p).length-1):=by have:=aEk (Tri.trim p) h0;rwa [show co (abR p)=co p from funext (amP p)] at this
 have hg:=aAu (q:=auM p) dp.2;obtain ⟨a1,a2,a3,a4⟩:=aJ0 tg mg hg h0 g1;have l1:=Dg.le dp (aEk tg hg) g1;rw [aJu] at g2 g3;have vg:∀q k,Irr q->Val q (co p) k->Val q (co (ajJ p (auM p))) (k-1):=fun q k hq hk=>by
  cases k with
  | zero=>refine Val.zero (aoH.co _) fun hd=>?_;have:=(hk.pos hq).1 (hd.trans g1);omega
  | succ k=>have:=Val.gcd hq hk (hk.aKK hq) g1 g2 g3 (aEk tg hg);rwa [show min (k+1) k=k+1-1 by omega] at this
 refine ⟨a1,tg,a2,mg,by unfold frL;omega,hg,fun q k hq hk=>⟨?_,by have:=vg q k hq hk;rwa [jo]⟩⟩;have h5:Val q (cvF (co (frL p)) (co (ajJ p (auM p)))) k:=by
  have:=hk.aLo (c:=1/co p ((abR p).length-1)) (fun e=>by have:=as4 dp.2;rw [e,xU] at this;exact absurd this (by decide));rwa [show (fun i=>1/co p ((abR p).length-1)*co p i)=cvF (co (frL p)) (co (ajJ p (auM p))) from funext fun i=>by (try dsimp only);rw [a4 i, <- uB,ye (1/_),as4 dp.2,xT];rfl] at this
 have:=Val.quo hq h5 (vg q k hq hk) (aEk a1 (by omega)) rfl;rwa [show k-(k-1)=if 0<k then 1 else 0 by split <;> omega] at this
def DvF (a b:List Rat):Prop:=∃n m,1<=n/\1<=m/\Cm n (co a)/\Cm m (co b)/\2*(n+((abR a).length+1-(abR b).length)*(m+1)+m+1)+1<=BQ
def DvI (a b:List Rat) (p:Nat) (R Q:Nat->Rat):Prop:=
 p<=(abR a).length+1-b.length/\Deg R (abR a).length/\(dqF (co b) b.length p R).2=(dvS a b).2/\(∀t,(dvS a b).1 t=if t<p then (dqF (co b) b.length p R).1 t else Q t)/\(∀t,Sq BQ (Q t)) /\
  ∃n m,1<=n/\1<=m/\Cm (n+((abR a).length+1-b.length-p)*(m+1)) R/\Cm m (co b)/\2*(n+((abR a).length+1-b.length)*(m+1)+m+1)+1<=BQ
def dvJ (R b:Nat->Rat) (c:Rat) (i j t:Nat):Rat:=if i<=t/\t<i+j then R t-c*b (t-i) else R t
theorem DvI.start {a b:List Rat} (hg:DvF a b):DvI a (abR b) ((abR a).length+1-(abR b).length) (co a) fun _=>0:=by
 obtain ⟨n,m,h1,h2,ha,hb,hB⟩:=hg;refine ⟨aV _,at2,rfl,fun t=>?_,fun t=>Sq.zero _ BQp,n,m,h1,h2,by rw [AB,tT];exact ha,hb.congr (amP b),hB⟩;by_cases h:t<(abR a).length+1-(abR b).length
 ·rw [c6 h];rfl
 ·rw [bF h];exact aBA _ _ _ _ t (by omega)
theorem aFZ {n m i j t u:Nat} {R b:Nat->Rat} (hR:Cm n R) (hb:Cm m b) (h0:b u≠0):Cm (n+m+1) (dvJ R b (R t/b u) i j):=hR.step hb h0 (fun k=>i<=k/\k<i+j) fun k=>k-i
theorem DvI.sq {a b:List Rat} {p:Nat} {R Q:Nat->Rat} (h:DvI a b p R Q) (t:Nat):Sq BQ (R t):=by obtain ⟨hp,_,_,_,_,n,m,h1,h2,hR,hb,hB⟩:=h;have:=cM (m+1) (Nat.sub_le ((abR a).length+1-b.length) p);exact (hR.sq (by omega) t).le (by omega)
structure DvR (b:List Rat) (i:Nat) (R:Nat->Rat) (c:Rat):Prop where
 xt:Sq BQ (co b (b.length-1))
 xc:Sq BQ c
 xb:∀t,Sq BQ (co b t)
 xp:∀t,Sq BQ (c*co b t)
 xj:∀j t,Sq BQ (dvJ R (co b) c i j t)
theorem DvI.room {a b:List Rat} {i:Nat} {R Q:Nat->Rat} (h:DvI a b (i+1) R Q) (tb:Tri b) (h0:0<b.length):DvR b i R (R (i+b.length-1)/co b (b.length-1)):=by
 obtain ⟨hp,_,_,_,_,n,m,h1,h2,hR,hb,hB⟩:=h;have e:(abR a).length+1-b.length=((abR a).length+1-b.length-(i+1))+(i+1):=by omega
 have hN:n+((abR a).length+1-b.length-(i+1))*(m+1)+(m+1)<=n+((abR a).length+1-b.length)*(m+1):=by have:=cM (m+1) (show (abR a).length+1-b.length-(i+1)+1<=(abR a).length+1-b.length by omega);rw [jV,qY] at this;omega
 have hc:=(hR.sq (by omega) (i+b.length-1)).div (hb.sq h2 (b.length-1)) (tb h0);exact ⟨(hb.sq h2 _).le (by omega),hc.le (by omega),fun t=>(hb.sq h2 t).le (by omega),fun t=>(hc.mul (hb.sq h2 t)).le (by omega),fun j t=>((aFZ hR hb (tb h0)).sq (by omega) t).le (by omega)⟩
theorem DvI.step {a b:List Rat} {i:Nat} {R Q:Nat->Rat} (h:DvI a b (i+1) R Q) (tb:Tri b) (h0:0<b.length):DvI a b i (dvJ R (co b) (R (i+b.length-1)/co b (b.length-1)) i b.length) fun t=>if t=i then R (i+b.length-1)/co b (b.length-1) else Q t:=by
 have hr:=h.room tb h0;obtain ⟨hp,hd,h3,h4,h5,n,m,h1,h2,hR,hb,hB⟩:=h;refine ⟨by omega,fun t ht=>?_,h3,fun t=>?_,fun t=>?_,n,m,h1,h2,?_,hb,hB⟩
 ·unfold dvJ;rw [bF (by omega)];exact hd t ht
 ·rw [h4];by_cases e:t=i
  ·rw [c6 (by omega),bF (by omega)];exact (c6 e).trans (c6 e).symm
  ·by_cases l:t<i
   ·rw [c6 (by omega),c6 l];exact bF e
   ·rw [bF (by omega),bF l];exact (bF e).symm
 ·(try dsimp only);split
  ·exact hr.xc
  ·exact h5 t
 ·refine (aFZ hR hb (tb h0)).le ?_;rw [show (abR a).length+1-b.length-i=((abR a).length+1-b.length-(i+1))+1 by omega,jV,qY];omega
theorem DvI.done {a b:List Rat} {R Q:Nat->Rat} (h:DvI a b 0 R Q):abR (aA ((abR a).length+1-b.length) Q)=aoI a b/\abR (aA (abR a).length R)=afM a b:=by obtain ⟨_,_,h3,h4,_⟩:=h;refine ⟨Aw abR (bE fun t _=>((h4 t).trans (bF (pN t))).symm),?_⟩;unfold afM;rw [<-h3];rfl
noncomputable def LO5:List az:=aHE::LO2
theorem aIF:bd LO5:=⟨aGx,azu⟩
def foDiv:List AV->Option (Option Prop×AV×List Ob)
 | [.k (.list .q) a,.k (.list .q) b]=>some (some (DvF a b),T3 (.k (.list .q) (aqQ a b)) (.k (.list .q) (apU a b)) (.k .bool (decide (¬(abR b).length=0))),[])
 | _=>none
def aEl:az:=⟨20,false,foDiv⟩
def aHP (a b:List Rat):bk:=⟨fun key_=>match key_ with | 10=>15 | 15=>16 | _=>0,fun key_=>match key_ with
 | 8=>some (⟨Nat×(Nat->Rat)×(Nat->Rat),fun x=>[(1,.k (.list .q) (abR b)),(4,.own 31 0 5),(5,.own 17 0 5),(7,.pt 7 0 5 0 0),(8,.k (.int .i64) (((x.1:Nat):Int)-1))],
 fun x=>[(7,.box 44 (.k .q (co (abR b) ((abR b).length-1)))),(17,.arr 44 .q (aA (abR a).length x.2.1)),(31,.arr 44 .q (aA ((abR a).length+1-(abR b).length) x.2.2))],
 fun _ x=>DvI a (abR b) x.1 x.2.1 x.2.2,fun x=>x.1⟩)
 | 13=>some (⟨(Nat×(Nat->Rat)×(Nat->Rat))×Nat,fun y=>[(1,.k (.list .q) (abR b)),(4,.own 31 0 5),(5,.own 17 0 5),(7,.pt 7 0 5 0 0),(8,.k (.int .i64) ((y.1.1:Nat):Int)),(61,.k (.list .q) (abR b)),(62,.k (.int .i64) (((abR b).length:Nat):Int)),(63,.k (.int .i64) ((y.2:Nat):Int))],
 fun y=>[(7,.box 44 (.k .q (co (abR b) ((abR b).length-1)))),(17,.arr 44 .q (aA (abR a).length (dvJ y.1.2.1 (co (abR b)) (y.1.2.2 y.1.1) y.1.1 y.2))),(31,.arr 44 .q (aA ((abR a).length+1-(abR b).length) y.1.2.2))],
 fun q y=>y.1=q.1/\y.1.2.2 y.1.1=y.1.2.1 (y.1.1+(abR b).length-1)/co (abR b) ((abR b).length-1)/\y.2<=(abR b).length/\∃Q,DvI a (abR b) (y.1.1+1) y.1.2.1 Q/\y.1.2.2=fun t=>if t=y.1.1 then y.1.2.2 y.1.1 else Q t,fun y=>(abR b).length-y.2⟩) | _=>none,nR,nU⟩
def aFk (a b:List Rat):Prop:=
 let t1:=(↑(abR b).length:Int);
 let t2:=(↑(abR a).length:Int);
 let t3:=if t2-t1+(1:Int) > (0:Int) then t2-t1+(1:Int) else (0:Int);
 let t4:=(abR a).length+(1:Nat)-(abR b).length;
 let t5:=(abR b).length-(1:Nat);
 SL BQ b/\((abR b).length<=aB->bif decide (t1=(0:Int)) then aqQ a b=[]/\apU a b=[]/\false=decide ¬(abR b).length=(0:Nat) else SL BQ a/\((abR
 b).length<=aB->amE (t1-(1:Int))/\((0:Int)<=t1-(1:Int)/\t1-(1:Int)<t1)/\((abR a).length<=aB->(abR b).length<=aB->amE (t2-t1)/\amE
 (t2-t1+(1:Int))/\(((0:Int)<=if t2-t1+(1:Int) > (0:Int) then t2-t1+(1:Int) else (0:Int))/\(t3<=if t2-t1+(1:Int) > (0:Int) then t2-t1
 + (1:Int) else (0:Int))/\t3<=(1099511627776:Int))/\((List.replicate t3.toNat (0:Rat)).length<=aB->amE ((↑(List.replicate t3.toNat (0:Rat)).length:Int)
 - (1:Int))/\∃(x0:Nat×(Nat->Rat)×(Nat->Rat)),((abR b=abR b/\(↑(List.replicate t3.toNat (0:Rat)).length:Int)-(1:Int)=(↑x0.1:Int)-(1 :
 Int))/\(abR b).getD (t1-(1:Int)).toNat (0:Rat)=co (abR b) t5/\abR a=aA (abR a).length x0.2.1/\List.replicate t3.toNat (0:Rat)=aA t4 x0.2.2) /\
 DvI a (abR b) x0.1 x0.2.1 x0.2.2/\∀(x:Nat×(Nat->Rat)×(Nat->Rat)),let u8:=aA (abR a).length x.2.1;let u7:=(↑x.1:Int)-(1:Int)+t1-(1:Int);
 let u6:=(↑x.1:Int)-(1:Int);let u2:=aA t4 x.2.2;let u1:=u8.getD u7.toNat (0:Rat)/co (abR b) t5;DvI a (abR b) x.1 x.2.1 x.2.2->bif decide ((0 :
 Int)<=(↑x.1:Int)-(1:Int)) then amE ((↑x.1:Int)-(1:Int)+t1)/\amE u7/\((0:Int)<=(↑x.1:Int)-(1:Int)+t1-(1:Int)/\(↑x.1:Int)-(1:Int) +
 t1-(1:Int)<(↑u8.length:Int))/\u7.toNat<u8.length/\(Sq BQ (u8.getD u7.toNat (0:Rat))/\Sq BQ (co (abR b) t5))/\((0:Int)<=(↑x.1:Int)-(1:Int) /\
 (↑x.1:Int)-(1:Int)<(↑u2.length:Int))/\u6.toNat<u2.length/\((0:Int)<=(↑x.1:Int)-(1:Int)/\(↑x.1:Int)-(1:Int)<(↑(u2.set u6.toNat u1).length :
 Int))/\u6.toNat<(u2.set u6.toNat u1).length/\Sq BQ ((u2.set u6.toNat u1).getD u6.toNat (0:Rat))/\bif decide (((u2.set u6.toNat u1).getD u6.toNat (0 :
 Rat)).num.sign=(0:Int)) then amE ((↑x.1:Int)-(1:Int)-(1:Int))/\∃(x':Nat×(Nat->Rat)×(Nat->Rat)),((abR b=abR b/\(↑x.1:Int)-(1:Int) -
 (1:Int)=(↑x'.1:Int)-(1:Int))/\co (abR b) t5=co (abR b) t5/\aA (abR a).length x.2.1=aA (abR a).length x'.2.1/\u2.set u6.toNat u1=aA t4
 x'.2.2)/\DvI a (abR b) x'.1 x'.2.1 x'.2.2/\x'.1<x.1 else (abR b).length<=aB->∃(x0b:(Nat×(Nat->Rat)×(Nat->Rat))×Nat),((abR b=abR b/\(↑x.1 :
 Int)-(1:Int)=(↑x0b.1.1:Int)/\abR b=abR b/\t1=t1/\(0:Int)=(↑x0b.2:Int))/\co (abR b) t5=co (abR b) t5/\aA (abR a).length x.2.1=aA
 (abR a).length (dvJ x0b.1.2.1 (co (abR b)) (x0b.1.2.2 x0b.1.1) x0b.1.1 x0b.2)/\u2.set u6.toNat u1=aA t4 x0b.1.2.2)/\(x0b.1=x0b.1/\x0b.1.2.2 x0b.1.1 =
 x0b.1.2.1 (x0b.1.1+(abR b).length-(1:Nat))/co (abR b) t5/\x0b.2<=(abR b).length/\∃(Q:Nat->Rat),DvI a (abR b) (x0b.1.1+(1:Nat)) x0b.1.2.1 Q /\
 x0b.1.2.2=fun (t:Nat)=>if t=x0b.1.1 then x0b.1.2.2 x0b.1.1 else Q t)/\∀(y1:(Nat×(Nat->Rat)×(Nat->Rat))×Nat),let u5:=aA t4 y1.1.2.2;
 let u4:=(↑y1.1.1:Int);let u9:=u4+(↑y1.2:Int);let u3:=aA (abR a).length (dvJ y1.1.2.1 (co (abR b)) (y1.1.2.2 y1.1.1) y1.1.1 y1.2);(y1.1=x0b.1 /\
 y1.1.2.2 y1.1.1=y1.1.2.1 (y1.1.1+(abR b).length-(1:Nat))/co (abR b) t5/\y1.2<=(abR b).length/\∃(Q:Nat->Rat),DvI a (abR b) (y1.1.1+(1:Nat))
 y1.1.2.1 Q/\y1.1.2.2=fun (t:Nat)=>if t=y1.1.1 then y1.1.2.2 y1.1.1 else Q t)->bif decide ((↑y1.2:Int)<t1) then ((0:Int)<=(↑y1.2:Int)/\(↑y1.2:Int) <
 t1)/\amE u9/\amE u9/\((0:Int)<=u4+(↑y1.2:Int)/\u4+(↑y1.2:Int)<(↑u3.length:Int))/\u9.toNat<u3.length/\((0:Int)<=u4/\u4<(↑u5.length:Int)) /\
 u4.toNat<u5.length/\(Sq BQ (u5.getD u4.toNat (0:Rat))/\Sq BQ ((abR b).getD (↑y1.2:Int).toNat (0:Rat)))/\(Sq BQ (u3.getD u9.toNat (0:Rat))/\Sq BQ (u5.getD
 u4.toNat (0:Rat)*(abR b).getD (↑y1.2:Int).toNat (0:Rat)))/\((0:Int)<=u4+(↑y1.2:Int)/\u4+(↑y1.2:Int)<(↑u3.length:Int))/\u9.toNat<u3.length /\
 amE ((↑y1.2:Int)+(1:Int))/\∃(x'b:(Nat×(Nat->Rat)×(Nat->Rat))×Nat),((abR b=abR b/\u4=(↑x'b.1.1:Int)/\abR b=abR b/\t1=t1/\(↑y1.2 :
 Int)+(1:Int)=(↑x'b.2:Int))/\co (abR b) t5=co (abR b) t5/\u3.set u9.toNat (u3.getD u9.toNat (0:Rat)-u5.getD u4.toNat (0:Rat)*(abR b).getD (↑y1.2
 : Int).toNat (0:Rat))=aA (abR a).length (dvJ x'b.1.2.1 (co (abR b)) (x'b.1.2.2 x'b.1.1) x'b.1.1 x'b.2)/\aA t4 y1.1.2.2=aA t4 x'b.1.2.2)/\(x'b.1=x0b.1 /\
 x'b.1.2.2 x'b.1.1=x'b.1.2.1 (x'b.1.1+(abR b).length-(1:Nat))/co (abR b) t5/\x'b.2<=(abR b).length/\∃(Q:Nat->Rat),DvI a (abR b) (x'b.1.1+(1 :
 Nat)) x'b.1.2.1 Q/\x'b.1.2.2=fun (t:Nat)=>if t=x'b.1.1 then x'b.1.2.2 x'b.1.1 else Q t)/\(abR b).length-x'b.2<(abR b).length-y1.2 else amE (u4-(1 :
 Int))/\∃(x':Nat×(Nat->Rat)×(Nat->Rat)),((abR b=abR b/\u4-(1:Int)=(↑x'.1:Int)-(1:Int))/\co (abR b) t5=co (abR b) t5/\aA (abR
 a).length (dvJ y1.1.2.1 (co (abR b)) (y1.1.2.2 y1.1.1) y1.1.1 y1.2)=aA (abR a).length x'.2.1/\aA t4 y1.1.2.2=aA t4 x'.2.2)/\DvI a (abR b) x'.1 x'.2.1
 x'.2.2/\x'.1<x.1 else SL BQ u2/\SL BQ u8/\abR u2=aqQ a b/\abR u8=apU a b/\true=decide ¬(abR b).length=(0:Nat)))))
theorem aGJ (a b:List Rat):aw LO5 [] (aHP a b) Tryz.f20 (T3 (.k (.list .q) (aqQ a b)) (.k (.list .q) (apU a b)) (.k .bool (decide (¬(abR b).length=0)))) [.k (.list .q) a,.k (.list .q) b]=aFk a b:=by kernel_rfl
theorem aGK (a b:List Rat) (hg:DvF a b):aFk a b:=by
 have st:=DvI.start hg;obtain ⟨n0,m0,n1,m1,ha,hb,hB⟩:=hg;unfold aFk;dsimp only;have qM:SL BQ a:=(ha.sl n1).le (by omega);refine ⟨(hb.sl m1).le (by omega),fun hL=>aH (fun h=>?_) fun h=>?_⟩
 ·have h':(abR b).length=0:=by omega
  unfold aqQ apU;rw [c6 h',c6 h',nc (fun x=>x h')];exact ⟨rfl,rfl,rfl⟩
 ·have h':¬(abR b).length=0:=by omega
  have eQ:aqQ a b=aoI a (abR b):=bF h';have eR:apU a b=afM a (abR b):=bF h';rw [eQ,eR,sD h'];have tb:=Tri.trim b;clear eQ eR hb hB;generalize abR b=B at *
  have h0:0<B.length:=by omega
  clear h h';have ea:abR a=aA (abR a).length (co a):=vt 0 rfl fun i _=>amP a i
  have e3:(if ((abR a).length:Int)-(B.length:Int)+1 > 0 then ((abR a).length:Int)-(B.length:Int)+1 else 0)=(((abR a).length+1-B.length:Nat):Int):=by split <;> omega
  rw [e3,show (((abR a).length+1-B.length:Nat):Int).toNat=(abR a).length+1-B.length from rfl,tS];refine ⟨qM,fun _=>⟨by unfold aB at hL;exact ⟨by omega,by omega⟩,⟨by omega,by omega⟩,fun hA _=>?_⟩⟩;unfold aB at hL hA;refine ⟨⟨by omega,by omega⟩,⟨by omega,by omega⟩,⟨by omega,Le _,by omega⟩,fun _=>⟨⟨by omega,by omega⟩,((abR a).length+1-B.length,co a,fun _=>0),⟨⟨rfl,rfl⟩,?_,ea,iO _ _⟩,st,?_⟩⟩
  ·rw [show ((B.length:Int)-1).toNat=B.length-1 by omega];rfl
  clear st ea e3 qM;generalize hN:(abR a).length+1-B.length=N at *
  rintro ⟨p,R,Q⟩ hI;dsimp only at hI ⊢;refine aH (fun hp=>?_) fun hp=>?_
  ·obtain ⟨i,rfl⟩:∃i,p=i+1:=⟨p-1,by omega⟩
   have eG:i+1<=N:=by have:=hI.1;omega
   have e1:((i+1:Nat):Int)-1=(i:Int):=by omega
   have hr:=hI.room tb h0;have hs:=hI.sq;have hS:=hI.step tb h0;have e7:((i:Int)+(B.length:Int)-1).toNat=i+B.length-1:=by omega
   have l7:i+B.length-1<(abR a).length:=by omega
   rw [e1,e7,fW l7,show ((i:Nat):Int).toNat=i from rfl,mX,mX,mY (by omega),mX,fW (by omega),c6 rfl];generalize hc:R (i+B.length-1)/co B (B.length-1)=c at *
   refine ⟨⟨by omega,by omega⟩,⟨by omega,by omega⟩,⟨by omega,by omega⟩,l7,⟨hs _,hr.xt⟩,⟨by omega,by omega⟩,by omega,⟨by omega,by omega⟩,by omega,hr.xc,aH (fun hz=>?_) fun hz _=>?_⟩
   ·have hz:c=0:=sign_zero.1 hz;refine ⟨⟨by omega,by omega⟩,(i,dvJ R (co B) c i B.length,fun t=>if t=i then c else Q t),⟨⟨rfl,rfl⟩,rfl,bE fun t _=>?_,rfl⟩,hS,by dsimp only;omega⟩;(try dsimp only);unfold dvJ;rw [hz];split <;> grind
   ·refine ⟨((i,R,fun t=>if t=i then c else Q t),0),⟨⟨rfl,rfl,rfl,rfl,rfl⟩,rfl,bE fun t _=>?_,rfl⟩,⟨rfl,?_,fK _,Q,hI,?_⟩,?_⟩
    ·(try dsimp only);unfold dvJ;rw [bF (by omega)]
    ·(try dsimp only);rw [c6 rfl];exact hc.symm
    ·(try dsimp only);rw [c6 rfl]
    ·rintro ⟨⟨i',R',Q'⟩,j⟩ ⟨hy,hq,hj,Q2,hI2,eQ⟩;dsimp only at hy hq hj hI2 eQ ⊢;injection hy with y1 y2
     injection y2 with y2 y3;subst y1;subst y2;subst y3;have ec:(fun t=>if t=i' then c else Q t) i'=c:=c6 rfl;rw [ec];refine aH (fun h5=>?_) fun h5=>?_
     ·have lj:i'+j<(abR a).length:=by omega
      have e9:((i':Int)+(j:Int)).toNat=i'+j:=by omega
      have ej:dvJ R' (co B) c i' j (i'+j)=R' (i'+j):=by unfold dvJ;rw [bF (by omega)]
      rw [e9,mX,fW lj,show ((i':Nat):Int).toNat=i' from rfl,fW (show i'<N by omega),c6 rfl,mX];refine ⟨idx h5,⟨by omega,by omega⟩,⟨by omega,by omega⟩,⟨by omega,by omega⟩,lj,⟨by omega,by omega⟩,by omega,⟨hr.xc,hr.xb j⟩,⟨hr.xj j _,hr.xp j⟩,⟨by omega,by omega⟩,lj,⟨by omega,by omega⟩,((i',R',fun t=>if t=i' then c else Q t),j+1),⟨⟨rfl,rfl,rfl,rfl,rfl⟩,rfl,?_,rfl⟩,⟨rfl,hq,by dsimp only;omega,Q2,hI2,eQ⟩,by dsimp only;omega⟩;rw [mY lj,ej];refine bE fun t _=>?_;(try dsimp only);rw [c6 rfl];unfold dvJ;by_cases e:t=i'+j
      ·rw [c6 e,c6 (show i'<=t/\t<i'+(j+1) by omega),e,show i'+j-i'=j by omega];rfl
      ·rw [bF e];by_cases l:i'<=t/\t<i'+j
       ·rw [c6 l,c6 (by omega)]
       ·rw [bF l,bF (by omega)]
     ·refine ⟨⟨by omega,by omega⟩,(i',dvJ R' (co B) c i' B.length,fun t=>if t=i' then c else Q t),⟨⟨rfl,rfl⟩,rfl,?_,rfl⟩,hS,by dsimp only;omega⟩;rw [show j=B.length by omega]
  ·have hp0:p=0:=by omega
   subst hp0;obtain ⟨d1,d2⟩:=hI.done;rw [hN] at d1;exact ⟨SL.mk (fun t _=>hI.2.2.2.2.1 t) BQp,SL.mk (fun t _=>hI.sq t) BQp,d1,d2,rfl⟩
theorem aCF:ah (cfg []) aEl:=fnK aIF bp Tryz.func20 (by kernel_rfl) fun args g r hn hc hg hf=>by
 replace hc:foDiv args=some (g,r,hn):=hc;unfold foDiv at hc;split at hc
 ·obtain ⟨rfl,rfl,rfl⟩:=aN hc;cases aY (aGJ _ _) (aGK _ _ hg);exact ⟨rfl,by kernel_rfl,_,by assumption⟩
 ·cases hc
def UG:Nat:=15000000000
def GcF (p q:List Rat):Prop:=∃M,1<=M/\Cm M (co p)/\Cm M (co q)/\pot M (abR p).length (abR q).length<=UG
def GcI (p q a b:List Rat):Prop:=Tri a/\Tri b/\EuS UG a b/\gcL b.length a b=ajJ p q
theorem aHQ (M la lb:Nat):2*M+1<=pot M la lb:=by
 unfold pot;split
 ·have:=dz (M+2) (eJ (show 0<3 by omega) (show 1<=la by omega));rw [G5] at this;omega
 ·have:=dz (2*(M+2)) (eJ (show 0<3 by omega) (fK lb));rw [Cq] at this;omega
theorem aEG:∀{n m:Nat} {a b:List Rat},Tri b->b.length<=n->b.length<=m->gcL n a b=gcL m a b
 | n,m,a,b,tb,hn,hm=>by
  by_cases h0:b.length=0
  ·cases n <;> cases m <;> simp [gcL,h0]
  ·match n,m with
   | 0,_=>exact absurd hn (by omega)
   | _+1,0=>exact absurd hm (by omega)
   | n+1,m+1=>
    unfold gcL
    rw [bF h0,bF h0]
    have hl:=(aq0 (a:=a) tb (by omega)).2
    have er:abR (afM a b)=afM a b:=aur _
    exact aEG (n:=n) (m:=m) (Tri.trim _) (by rw [aqI,er];omega) (by rw [aqI,er];omega)
 termination_by n=>n
theorem GcF.start {p q:List Rat} (h:GcF p q):GcI p q (apl p) (apl q):=by obtain ⟨M,h1,hp,hq,hU⟩:=h;exact ⟨Tri.trim _,Tri.trim _,⟨M,h1,hp.mon h1,hq.mon h1,by rw [aqI,aqI];exact hU⟩,rfl⟩
theorem GcI.div {p q a b:List Rat} (h:GcI p q a b) (h0:0<b.length):DvF a b/\(∃n,1<=n/\Cm n (co (afM a b))/\2*n+1<=BQ)/\GcI p q b (apl (afM a b))/\(apl (afM a b)).length<b.length:=by
 obtain ⟨ta,tb,hE,hg⟩:=h;have hs:=(hE.step ta tb h0).1;obtain ⟨M,h1,ha,hb,hU⟩:=hE;have hr:=aDU h0 hU;unfold UG at hr;have hl:=(aq0 (a:=a) tb h0).2;have er:abR (afM a b)=afM a b:=aur _;have hm:=ha.rem hb tb h0;rw [ta.is] at hm;refine ⟨⟨M,M,h1,h1,ha,hb,by rw [ta.is,tb.is];unfold BQ;omega⟩,⟨_,by omega,hm,by unfold BQ;omega⟩,⟨tb,Tri.trim _,hs,?_⟩,by rw [aqI,er];exact hl⟩;rw [<-hg];obtain ⟨n,hn⟩:∃n,b.length=n+1:=⟨b.length-1,by omega⟩
 rw [hn];conv=>rhs;unfold gcL
 rw [bF (by omega)];exact aEG (Tri.trim _) (aV _) (by rw [aqI,er];omega)
noncomputable def LO6:List az:=aEl::aHL::aFd::LO2
theorem aDj:bd LO6:=⟨aCF,aGI,aDV,azu⟩
def foGcd:List AV->Option (Option Prop×AV×List Ob)
 | [.k (.list .q) p,.k (.list .q) q]=>some (some (GcF p q),.k (.list .q) (ajJ p q),[])
 | _=>none
def aFl:az:=⟨12,false,foGcd⟩
def aHS (p q:List Rat):bk:=⟨nU,fun key_=>match key_ with
 | 2=>some (⟨List Rat×List Rat,fun x=>[(0,.k (.list .q) x.1),(1,.k (.list .q) x.2)],fun x=>[],fun _ x=>GcI p q x.1 x.2,fun x=>x.2.length⟩) | _=>none,nR,nU⟩
def aFm (p q:List Rat):Prop:=(∃(n:Nat),(1:Nat)<=n/\Cm n (co p)/\(2:Nat)*n+(1:Nat)<=BQ)/\(∃(n:Nat),(1:Nat)<=n/\Cm n (co q)/\(2:Nat)*n+(1:Nat)<=BQ)/\∃(x0:List
 Rat×List Rat),(apl p=x0.1/\apl q=x0.2)/\GcI p q x0.1 x0.2/\∀(x:List Rat×List Rat),GcI p q x.1 x.2->x.2.length<=aB->bif decide ((0:Int) <
 (↑x.2.length:Int)) then DvF x.1 x.2/\(∃(n:Nat),(1:Nat)<=n/\Cm n (co (apU x.1 x.2))/\(2:Nat)*n+(1:Nat)<=BQ)/\∃(x':List Rat×List Rat),(x.2 =
 x'.1/\apl (apU x.1 x.2)=x'.2)/\GcI p q x'.1 x'.2/\x'.2.length<x.2.length else x.1=ajJ p q
theorem aGL (p q:List Rat):aw LO6 [] (aHS p q) Tryz.f12 (.k (.list .q) (ajJ p q)) [.k (.list .q) p,.k (.list .q) q]=aFm p q:=by kernel_rfl
theorem aGM (p q:List Rat) (hg:GcF p q):aFm p q:=by
 unfold aFm;obtain ⟨M,h1,hp,hq,hU⟩:=id hg;have hM:=aHQ M (abR p).length (abR q).length;have hB:2*M+1<=BQ:=by have h:=hU;unfold UG at h;unfold BQ;omega
 have cR:=hg.start;clear hU hM;refine ⟨⟨M,h1,hp,hB⟩,⟨M,h1,hq,hB⟩,(apl p,apl q),⟨rfl,rfl⟩,cR,fun ⟨a,b⟩ hI hL=>?_⟩;dsimp only at hI hL ⊢;refine aH (fun h=>?_) fun h=>?_
 ·have h0:0<b.length:=by omega
  obtain ⟨d1,d2,d3,d4⟩:=hI.div h0;rw [aAJ hI.2.1 h0];generalize apl (afM a b)=r' at *
  exact ⟨d1,d2,(b,r'),⟨rfl,rfl⟩,d3,d4⟩
 ·have e:=hI.2.2.2;rw [show b.length=0 by omega] at e;exact e
theorem aD4:ah (cfg []) aFl:=fnK aDj bp Tryz.func12 (by kernel_rfl) fun args g r hn hc hg hf=>by
 replace hc:foGcd args=some (g,r,hn):=hc;unfold foGcd at hc;split at hc
 ·obtain ⟨rfl,rfl,rfl⟩:=aN hc;cases aY (aGL _ _) (aGM _ _ hg);exact ⟨rfl,by kernel_rfl,_,by assumption⟩
 ·cases hc
def aFn:List AV->Option (Option Prop×AV×List Ob)
 | [.k (.list .q) a,.k (.list .q) b]=>some (some (DvF a b),.k (.list .q) (ovL a b),[])
 | _=>none
def aHT:az:=⟨46,false,aFn⟩
def aHU (a b:List Rat):bk:=⟨nU,nL,nR,nU⟩
def aFo (a b:List Rat):Prop:=DvF a b/\(∃(n:Nat),(1:Nat)<=n/\Cm n (co (aqQ a b))/\(2:Nat)*n+(1:Nat)<=BQ)/\apl (aqQ a b)=ovL a b
theorem aGN (a b:List Rat):aw LO6 [] (aHU a b) Tryz.f46 (.k (.list .q) (ovL a b)) [.k (.list .q) a,.k (.list .q) b]=aFo a b:=by kernel_rfl
theorem aGO (a b:List Rat) (hg:DvF a b):aFo a b:=by
 unfold aFo;obtain ⟨n,m,h1,h2,ha,hb,hB⟩:=id hg;refine ⟨hg,?_,rfl⟩;unfold aqQ;by_cases h0:(abR b).length=0
 ·rw [c6 h0];exact ⟨1,aV 1,Cm.nil (aV 1) rfl,by unfold BQ;omega⟩
 ·rw [bF h0];exact ⟨_,by omega,ha.quo (hb.congr (amP b)) (Tri.trim b) (by omega),hB⟩
theorem aGP:ah (cfg []) aHT:=fnK aDj bp Tryz.func46 (by kernel_rfl) fun args g r hn hc hg hf=>by
 replace hc:aFn args=some (g,r,hn):=hc;unfold aFn at hc;split at hc
 ·obtain ⟨rfl,rfl,rfl⟩:=aN hc;cases aY (aGN _ _) (aGO _ _ hg);exact ⟨rfl,by kernel_rfl,_,by assumption⟩
 ·cases hc
def DeF (p:List Rat):Prop:=∃n,1<=n/\Cm n (co p)/\2*n+64<=BQ
def foDer:List AV->Option (Option Prop×AV×List Ob)
 | [.k (.list .q) p]=>some (some (DeF p),.k (.list .q) (auM p),[])
 | _=>none
def aHV:az:=⟨26,false,foDer⟩
def aHW (p:List Rat):bk:=⟨fun key_=>match key_ with | 6=>7 | _=>0,fun key_=>match key_ with
 | 4=>some (⟨Nat,fun i=>[(0,.k (.list .q) (abR p)),(3,.own 3 0 5),(4,.k (.int .i64) ((i:Nat):Int))],fun i=>[(3,.arr 44 .q (aA (i-1) fun j=>co p (j+1)*((j+1:Nat):Rat)))],fun _ i=>1<=i/\i-1<=(abR p).length-1,fun i=>(abR p).length+1-i⟩) | _=>none,nR,nU⟩
def aFp (p:List Rat):Prop:=SL BQ p/\∃(x0:Nat),((abR p=abR p/\(1:Int)=(↑x0:Int))/\(aA (x0-(1:Nat)) fun (j:Nat)=>co p (j+(1:Nat))*(↑(j+(1:Nat)):Rat))=[]) /\
 ((1:Nat)<=x0/\x0-(1:Nat)<=(abR p).length-(1:Nat))/\∀(x:Nat),
 let u1:=aA (x-(1:Nat)) fun (j:Nat)=>co p (j+(1:Nat))*(↑(j+(1:Nat)):Rat);(1:Nat)<=x/\x-(1:Nat)<=(abR p).length-(1:Nat)->(abR
 p).length<=aB->bif decide ((↑x:Int)<(↑(abR p).length:Int)) then ((0:Int)<=(↑x:Int)/\(↑x:Int)<(↑(abR p).length:Int))/\amE (↑x:Int)/\(Sq BQ
 ((abR p).getD (↑x:Int).toNat (0:Rat))/\Sq BQ (↑(↑x:Int):Rat))/\u1.length+[(abR p).getD (↑x:Int).toNat (0:Rat)*(↑(↑x:Int):Rat)].length<=aB /\
 amE ((↑x:Int)+(1:Int))/\∃(x':Nat),((abR p=abR p/\(↑x:Int)+(1:Int)=(↑x':Int))/\u1.append [(abR p).getD (↑x:Int).toNat (0:Rat)*(↑(↑x :
 Int):Rat)]=aA (x'-(1:Nat)) fun (j:Nat)=>co p (j+(1:Nat))*(↑(j+(1:Nat)):Rat))/\((1:Nat)<=x'/\x'-(1:Nat)<=(abR p).length-(1:Nat)) /\
 (abR p).length+(1:Nat)-x'<(abR p).length+(1:Nat)-x else SL BQ u1/\abR u1=auM p
theorem aGQ (p:List Rat):aw LO6 [] (aHW p) Tryz.f26 (.k (.list .q) (auM p)) [.k (.list .q) p]=aFp p:=by kernel_rfl
theorem aGR (p:List Rat) (hg:DeF p):aFp p:=by
 unfold aFp;obtain ⟨n,h1,hc,hB⟩:=hg;refine ⟨(hc.sl h1).le (by omega),1,⟨⟨rfl,rfl⟩,rfl⟩,⟨aV 1,by omega⟩,fun i ⟨hi1,OK⟩ hL=>aH (fun h=>?_) fun h=>?_⟩
 ·have hi:i<(abR p).length:=by omega
  obtain ⟨j,rfl⟩:∃j,i=j+1:=⟨i-1,by omega⟩
  unfold aB at hL;have hq:Sq 64 (((((j+1:Nat):Int)):Int):Rat):=Sq.int (Sm.lit (by omega)) (by omega);have e1:(abR p).getD (j+1) 0=co p (j+1):=amP p (j+1);rw [show (((j+1:Nat)):Int).toNat=j+1 from rfl,e1];refine ⟨⟨by omega,by omega⟩,⟨by omega,by omega⟩,⟨(hc.sq h1 _).le (by omega),hq.le (by unfold BQ;omega)⟩,by rw [mX];simp [aB];omega,⟨by omega,by omega⟩,j+1+1,⟨⟨rfl,rfl⟩,?_⟩,⟨by omega,by omega⟩,by omega⟩;exact aCi rfl
 ·have e:i-1=(abR p).length-1:=by omega
  rw [e];refine ⟨SL.mk (fun t ht=>?_) BQp,rfl⟩;have hq:Sq 64 ((((t+1:Nat):Int):Int):Rat):=Sq.int (Sm.lit (by unfold aB at hL;omega)) (by omega);exact ((hc.sq h1 (t+1)).mul hq).le (by omega)
theorem aGS:ah (cfg []) aHV:=fnK aDj bp Tryz.func26 (by kernel_rfl) fun args g r hn hc hg hf=>by
 replace hc:foDer args=some (g,r,hn):=hc;unfold foDer at hc;split at hc
 ·obtain ⟨rfl,rfl,rfl⟩:=aN hc;cases aY (aGQ _) (aGR _ hg);exact ⟨rfl,by kernel_rfl,_,by assumption⟩
 ·cases hc
def PoF (x:Rat) (n:Nat):Prop:=∃s,1<=s/\Sq s x/\s*n+1<=BQ/\n<=aB
theorem Sq.pw {s:Nat} {x:Rat} (h:Sq s x):∀n:Nat,Sq (s*n+1) (x^n)
 | 0=>by rw [Aq];exact (Sq.int (n:=1) Sm.one (aV 1)).le (by omega)
 | n+1=>by rw [Cr];exact ((Sq.pw h n).mul h).le (by rw [q9];omega)
def foPow:List AV->Option (Option Prop×AV×List Ob)
 | [.k .q x,.k (.int .i64) ((n:Nat):Int)]=>some (some (PoF x n),.k .q (x^n),[])
 | _=>none
def aKs:az:=⟨55,false,foPow⟩
def aHX (x:Rat) (n:Nat):bk:=⟨nU,fun key_=>match key_ with
 | 3=>some (⟨Nat,fun i=>[(2,.pt 2 0 5 0 0),(4,.pt 4 0 5 0 0),(5,.pt 5 0 5 0 0),(7,.k (.int .i64) ((n:Nat):Int)),(8,.k (.int .i64) ((i:Nat):Int))],
 fun i=>[(2,.box 44 (.k .q x)),(4,.box 44 (.k .q (0:Rat))),(5,.box 44 (.k .q (x^i)))],fun _ i=>i<=n,fun i=>n-i⟩) | _=>none,nR,nU⟩
def aFq (x:Rat) (n:Nat):Prop:=amE (1:Int)/\∃(x0:Nat),(((↑n:Int)=(↑n:Int)/\(0:Int)=(↑x0:Int))/\x=x/\(0:Rat)=(0:Rat)/\(↑(1:Int):Rat)=x^x0)/\x0<=n/\∀(y1 :
 Nat),y1<=n->bif decide ((↑y1:Int)<(↑n:Int)) then (Sq BQ (x^y1)/\Sq BQ x)/\amE ((↑y1:Int)+(1:Int))/\∃(x':Nat),(((↑n:Int)=(↑n:Int)/\(↑y1 :
 Int)+(1:Int)=(↑x':Int))/\x=x/\(0:Rat)=(0:Rat)/\x^y1*x=x^x')/\x'<=n/\n-x'<n-y1 else x^y1=x^n
theorem aGT (x:Rat) (n:Nat):aw LO6 [] (aHX x n) Tryz.f55 (.k .q (x^n)) [.k .q x,.k (.int .i64) ((n:Nat):Int)]=aFq x n:=by kernel_rfl
theorem aGU (x:Rat) (n:Nat) (hg:PoF x n):aFq x n:=by
 unfold aFq;obtain ⟨s,h1,hx,hB,hn⟩:=hg;unfold aB at hn;refine ⟨⟨by omega,by omega⟩,0,⟨⟨rfl,rfl⟩,rfl,rfl,(Aq x).symm⟩,fK _,fun i hi=>aH (fun h=>?_) fun h=>?_⟩
 ·have cw:i<n:=by omega
  have hs:=dz s (show i+1<=n by omega);rw [q9,tQ] at hs;exact ⟨⟨(Sq.pw hx i).le (by omega),hx.le (by omega)⟩,⟨by omega,by omega⟩,i+1,⟨⟨rfl,rfl⟩,rfl,rfl,(Cr x i).symm⟩,by omega,by omega⟩
 ·rw [show i=n by omega]
theorem aGV:ah (cfg []) aKs:=fnK aDj bp Tryz.func55 (by kernel_rfl) fun args g r hn hc hg hf=>by
 replace hc:foPow args=some (g,r,hn):=hc;unfold foPow at hc;split at hc
 ·obtain ⟨rfl,rfl,rfl⟩:=aN hc;cases aY (aGT _ _) (aGU _ _ hg);exact ⟨rfl,by kernel_rfl,_,by assumption⟩
 ·cases hc
def anu (p q:List Rat):Rat:=if (abR p).length=0\/(abR q).length=0 then 0 else rsL (abR p).length (abR p) (abR q)
def RsF (p q:List Rat):Prop:=∃M,1<=M/\Cm M (co p)/\Cm M (co q)/\pot M (abR q).length (abR p).length<=20000000/\(abR p).length<=20/\(abR q).length<=20
structure RsI (p q a b:List Rat) (out:Rat):Prop where
 ta:Tri a
 tb:Tri b
 la:0<a.length
 lb:0<b.length
 al:a.length<=20
 bl:b.length<=20
 eu:EuS 20000000 b a
 sz:Sq (400000001*(20-a.length)+1) out
 eq:out*rsL a.length a b=anu p q
theorem RsI.sub {p q a b:List Rat} {out:Rat} (h:RsI p q a b out):Sq 20000000 (co a (a.length-1))/\Sq BQ out/\PoF (co a (a.length-1)) 19:=by obtain ⟨M,h1,ha,hb,hU⟩:=h.eu;have:=aHQ M b.length a.length;have hs:Sq 20000000 (co a (a.length-1)):=(hb.sq h1 _).le (by omega);exact ⟨hs,h.sz.le (by have:=h.la;unfold BQ;omega),20000000,by omega,hs,by unfold BQ;omega,by unfold aB;omega⟩
theorem PoF.le {x:Rat} {n m:Nat} (h:PoF x m) (hn:n<=m):PoF x n:=by obtain ⟨s,h1,h2,h3,h4⟩:=h;have:=dz s hn;exact ⟨s,h1,h2,by omega,by omega⟩
theorem RsI.next {p q a b:List Rat} {out:Rat} (h:RsI p q a b out) (h2:1<a.length):DvF b a/\(afM b a).length<=b.length/\((afM b a).length=0->anu p q=0) /\
  ((afM b a).length≠0->Sq BQ (co a (a.length-1)^(b.length-(afM b a).length))/\Sq BQ (out*co a (a.length-1)^(b.length-(afM b a).length))/\RsI p q (afM b a) a (out*co a (a.length-1)^(b.length-(afM b a).length)*sgR a.length (afM b a).length)):=by
 obtain ⟨hs,ho,_⟩:=h.sub
 have la:=h.la
 have al:=h.al
 have bl:=h.bl
 have cR:=(h.eu.step h.tb h.ta h.la).2
 have hl:=(aq0 (a:=b) h.ta h.la).2
 have hle:=aFU b a
 rw [h.tb.is] at hle
 obtain ⟨M,h1,hb,ha,hU⟩:=h.eu
 have hr:=aDU h.la hU
 refine ⟨⟨M,M,h1,h1,hb,ha,by rw [h.tb.is,h.ta.is];unfold BQ;omega⟩,hle,fun h0=>?_,fun h0=>?_⟩
 ·have e:=h.eq
  obtain ⟨n,hn⟩:∃n,a.length=n+1:=⟨a.length-1,by omega⟩
  rw [hn,as2 h2 h0,xU] at e
  exact e.symm
 ·have hp:=Sq.pw hs (b.length-(afM b a).length)
  have hm:=dz 20000000 (show b.length-(afM b a).length<=20 by omega)
  have h3:=h.sz.mul hp
  have h4:Sq (400000001*(20-(afM b a).length)+1) (out*co a (a.length-1)^(b.length-(afM b a).length)):=h3.le (by omega)
  refine ⟨hp.le (by unfold BQ;omega),h4.le (by unfold BQ;omega),as1 b a,h.ta,by omega,h.la,by omega,h.al,cR,?_,?_⟩
  ·unfold sgR
   split
   ·rw [show ∀x:Rat,x * -1 = -x from fun x=>by grind]
    exact h4.neg
   ·rw [CY];exact h4
  ·have e:=h.eq
   obtain ⟨n,hn⟩:∃n,a.length=n+1:=⟨a.length-1,by omega⟩
   rw [hn,aq2 h2 h0,aBC (m:=(afM b a).length) (as1 b a) (by omega) (by omega)] at e
   rw [<-e]
   grind
def coPowI:az:=⟨55,false,fun args=>match args with
 | [.k .q x,.k (.int .i64) n]=>some (some ((0:Int)<=n/\PoF x (Int.toNat n)),.k .q (x^Int.toNat n),[])
 | _=>none⟩
theorem aFr:ah (cfg []) coPowI:=ly aGV fun args g r hn hc hg=>by
 split at hc
 ·rename_i x n;obtain ⟨rfl,rfl,rfl⟩:=aN hc;obtain ⟨k,rfl⟩:=yZ hg.1;exact ⟨_,rfl,hg.2⟩
 ·cases hc
theorem RsF.start {p q:List Rat} (h:RsF p q) (hp:(abR p).length≠0) (hq:(abR q).length≠0):RsI p q (abR p) (abR q) ((1:Int):Rat):=by obtain ⟨M,h1,cp,cq,hU,lp,lq⟩:=h;refine ⟨Tri.trim p,Tri.trim q,by omega,by omega,lp,lq,⟨M,h1,cq.congr (amP q),cp.congr (amP p),hU⟩,(Sq.int (n:=1) Sm.one (aV 1)).le (by omega),?_⟩;unfold anu;rw [bF fun e=>e.elim hp hq];exact xT _
theorem aFs (n:Nat):((n:Nat):Int).tmod 2=((n%2:Nat):Int):=rfl
noncomputable def LO7:List az:=aEl::coPowI::aE8::aa5::xM::V9::[]
theorem aIH:bd LO7:=⟨aCF,aFr,aCB,V5,pJ,Qc,trivial⟩
def foRes:List AV->Option (Option Prop×AV×List Ob)
 | [.k (.list .q) p,.k (.list .q) q]=>some (some (SL BQ p/\SL BQ q/\((abR p).length≠0->(abR q).length≠0->RsF p q)),.k .q (anu p q),[])
 | _=>none
def aHY:az:=⟨17,false,foRes⟩
def aHZ (p q:List Rat):bk:=⟨fun key_=>match key_ with | 9=>13 | 13=>8 | _=>0,fun key_=>match key_ with
 | 5=>some (⟨List Rat×List Rat×Rat,fun x=>[(0,.k (.list .q) x.1),(1,.k (.list .q) x.2.1),(4,.pt 4 0 5 0 0),(5,.pt 5 0 5 0 0)],fun x=>[(4,.box 44 (.k .q (0:Rat))),(5,.box 44 (.k .q x.2.2))],fun _ x=>RsI p q x.1 x.2.1 x.2.2,fun x=>x.1.length⟩) | _=>none,nR,nU⟩
def aFt (p q:List Rat):Prop:=SL BQ p/\SL BQ q/\((abR p).length<=aB->bif decide ((↑(abR p).length:Int)=(0:Int)) then On (0:Int) (0:Nat)/\j6 (0:Int) (0:Nat)=anu p q else
 (abR q).length<=aB->bif decide ((↑(abR q).length:Int)=(0:Int)) then On (0:Int) (0:Nat)/\j6 (0:Int) (0:Nat)=anu p q else amE (1:Int)/\∃(x0
 : List Rat×List Rat×Rat),((abR p=x0.1/\abR q=x0.2.1)/\(0:Rat)=(0:Rat)/\(↑(1:Int):Rat)=x0.2.2)/\RsI p q x0.1 x0.2.1 x0.2.2/\∀(x:List Rat ×
 List Rat×Rat),let u4:=(↑(apU x.2.1 x.1).length:Int);let u3:=(↑x.2.1.length:Int);let u2:=(↑x.1.length:Int);let u1:=u3-u4;RsI p q x.1 x.2.1 x.2.2 ->
 x.1.length<=aB->bif decide ((1:Int)<u2) then DvF x.2.1 x.1/\((apU x.2.1 x.1).length<=aB->bif decide (u4=(0:Int)) then On (0:Int) (0:Nat)/\j6 (0 :
 Int) (0:Nat)=anu p q else amE (u2-(1:Int))/\((0:Int)<=u2-(1:Int)/\u2-(1:Int)<u2)/\amE u1/\((0:Int)<=u3-u4/\PoF (x.1.getD (u2-(1 :
 Int)).toNat (0:Rat)) u1.toNat)/\(Sq BQ x.2.2/\Sq BQ (x.1.getD (u2-(1:Int)).toNat (0:Rat)^u1.toNat))/\(x.1.length<=aB->(2:Int)≠(0:Int)/\bif decide
 (u2.tmod (2:Int)=(0:Int)) then (apU x.2.1 x.1).length<=aB->(2:Int)≠(0:Int)/\bif decide (u4.tmod (2:Int)=(0:Int)) then Sq BQ (x.2.2*x.1.getD (u2 -
 (1:Int)).toNat (0:Rat)^u1.toNat)/\∃(x':List Rat×List Rat×Rat),((apU x.2.1 x.1=x'.1/\x.1=x'.2.1)/\(0:Rat)=(0:Rat) /\ -(x.2.2*x.1.getD (u2-(1
 : Int)).toNat (0:Rat)^u1.toNat)=x'.2.2)/\RsI p q x'.1 x'.2.1 x'.2.2/\x'.1.length<x.1.length else ∃(x':List Rat×List Rat×Rat),((apU x.2.1 x.1=x'.1 /\
 x.1=x'.2.1)/\(0:Rat)=(0:Rat)/\x.2.2*x.1.getD (u2-(1:Int)).toNat (0:Rat)^u1.toNat=x'.2.2)/\RsI p q x'.1 x'.2.1 x'.2.2/\x'.1.length<x.1.length
 else ∃(x':List Rat×List Rat×Rat),((apU x.2.1 x.1=x'.1/\x.1=x'.2.1)/\(0:Rat)=(0:Rat)/\x.2.2*x.1.getD (u2-(1:Int)).toNat (0:Rat)^u1.toNat =
 x'.2.2)/\RsI p q x'.1 x'.2.1 x'.2.2/\x'.1.length<x.1.length)) else ((0:Int)<=(0:Int)/\(0:Int)<u2)/\amE (u3-(1:Int))/\((0:Int)<=u3-(1:Int) /\
 PoF (x.1.getD (Int.toNat (0:Int)) (0:Rat)) (u3-(1:Int)).toNat)/\(Sq BQ x.2.2/\Sq BQ (x.1.getD (Int.toNat (0:Int)) (0:Rat)^(u3-(1:Int)).toNat))/\x.2.2
 * x.1.getD (Int.toNat (0:Int)) (0:Rat)^(u3-(1:Int)).toNat=anu p q)
theorem aGW (p q:List Rat):aw LO7 [] (aHZ p q) Tryz.f17 (.k .q (anu p q)) [.k (.list .q) p,.k (.list .q) q]=aFt p q:=by kernel_rfl
theorem aGX (p q:List Rat) (hg:SL BQ p/\SL BQ q/\((abR p).length≠0->(abR q).length≠0->RsF p q)):aFt p q:=by
 unfold aFt;obtain ⟨SY,hsq,hg⟩:=hg;refine ⟨SY,hsq,fun _=>aH (fun h=>?_) fun h _=>aH (fun h'=>?_) fun h'=>?_⟩
 ·exact ⟨.inl rfl,(fN 0).trans (c6 (.inl (by omega))).symm⟩
 ·exact ⟨.inl rfl,(fN 0).trans (c6 (.inr (by omega))).symm⟩
 ·have hp:(abR p).length≠0:=by omega
  have hq:(abR q).length≠0:=by omega
  refine ⟨⟨by omega,by omega⟩,(abR p,abR q,((1:Int):Rat)),⟨⟨rfl,rfl⟩,rfl,rfl⟩,(hg hp hq).start hp hq,?_⟩;rintro ⟨a,b,out⟩;dsimp only;intro hI hL;have la:=hI.la;have lb:=hI.lb;have al:=hI.al;have bl:=hI.bl;refine aH (fun h2=>?_) fun h2=>?_
  ·have h2:1<a.length:=by omega
   obtain ⟨d1,d2,d3,d4⟩:=hI.next h2;obtain ⟨_,s2,s3⟩:=hI.sub;have hl:=(aq0 (a:=b) hI.ta la).2;rw [aAJ hI.ta la,aFs,aFs];refine ⟨d1,fun hR=>aH (fun h0=>⟨.inl rfl,(fN 0).trans (d3 (by omega)).symm⟩) fun h0=>?_⟩;obtain ⟨e1,e2,e3⟩:=d4 (by omega);rw [show ((a.length:Int)-1).toNat=a.length-1 by omega,show ((b.length:Int)-((afM b a).length:Int)).toNat=b.length-(afM b a).length by omega,show a.getD (a.length-1) 0=co a (a.length-1) from rfl];have yes:¬(a.length%2=0/\(afM b a).length%2=0)->RsI p q (afM b a) a (out*co a (a.length-1)^(b.length-(afM b a).length)):=fun hn=>by unfold sgR at e3;rw [bF hn,CY] at e3;exact e3
   refine ⟨⟨by omega,by omega⟩,⟨by omega,by omega⟩,⟨by omega,by omega⟩,⟨by omega,s3.le (by omega)⟩,⟨s2,e1⟩,fun _=>⟨by decide,aH (fun h5 _=>⟨by decide,aH (fun h6=>?_) fun h6=>?_⟩) fun h5=>?_⟩⟩
   ·unfold sgR at e3;rw [c6 (by omega),show ∀x:Rat,x * -1 = -x from fun x=>by grind] at e3;exact ⟨e2,(afM b a,a,-(out*co a (a.length-1)^(b.length-(afM b a).length))),⟨⟨rfl,rfl⟩,rfl,rfl⟩,e3,hl⟩
   ·exact ⟨(afM b a,a,out*co a (a.length-1)^(b.length-(afM b a).length)),⟨⟨rfl,rfl⟩,rfl,rfl⟩,yes (by omega),hl⟩
   ·exact ⟨(afM b a,a,out*co a (a.length-1)^(b.length-(afM b a).length)),⟨⟨rfl,rfl⟩,rfl,rfl⟩,yes (by omega),hl⟩
  ·obtain ⟨s1,s2,s3⟩:=hI.sub;have ha:a.length=1:=by omega
   rw [ha] at s1 s3;have e:=hI.eq;rw [atx (by omega)] at e;rw [show ((b.length:Int)-1).toNat=b.length-1 by omega];refine ⟨⟨by omega,by omega⟩,⟨by omega,by omega⟩,⟨by omega,s3.le (by omega)⟩,⟨s2,?_⟩,e⟩;have hm:=dz 20000000 (show b.length-1<=20 by omega);exact (Sq.pw s1 (b.length-1)).le (by unfold BQ;omega)
theorem aGY:ah (cfg []) aHY:=fnK aIH bp Tryz.func17 (by kernel_rfl) fun args g r hn hc hg hf=>by
 replace hc:foRes args=some (g,r,hn):=hc;unfold foRes at hc;split at hc
 ·obtain ⟨rfl,rfl,rfl⟩:=aN hc;cases aY (aGW _ _) (aGX _ _ hg);exact ⟨rfl,by kernel_rfl,_,by assumption⟩
 ·cases hc
def aCG:Nat->List Rat->List Rat->Prop
 | 0,f,_=>f.length<=1
 | n+1,f,r=>1<f.length->GcF f r/\DvF f (ajJ f r)/\DvF r (ajJ f r)/\aCG n (ajJ f r) (ovL r (ajJ f r))
def FrF (p:List Rat):Prop:=DeF p/\GcF p (auM p)/\DvF p (ajJ p (auM p))
def FcF (p:List Rat):Prop:=FrF p/\aCG p.length (frL p) (ajJ p (auM p))
noncomputable def LO8:List az:=aHV::aFl::aHT::[]
theorem aIJ:bd LO8:=⟨aGS,aD4,aGP,trivial⟩
def foFre:List AV->Option (Option Prop×AV×List Ob)
 | [.k (.list .q) p]=>some (some (FrF p),.k (.list .q) (frL p),[])
 | _=>none
def aKM:az:=⟨14,false,foFre⟩
def aKN (p:List Rat):bk:=⟨nU,nL,nR,nU⟩
def aKO (p:List Rat):Prop:=DeF p/\GcF p (auM p)/\DvF p (ajJ p (auM p))/\ovL p (ajJ p (auM p))=frL p
theorem aKl (p:List Rat):aw LO8 [] (aKN p) Tryz.f14 (.k (.list .q) (frL p)) [.k (.list .q) p]=aKO p:=by kernel_rfl
theorem aKm (p:List Rat) (hg:FrF p):aKO p:=by exact ⟨hg.1,hg.2.1,hg.2.2,rfl⟩
theorem aKn:ah (cfg []) aKM:=fnK aIJ bp Tryz.func14 (by kernel_rfl) fun args g r hn hc hg hf=>by
 replace hc:foFre args=some (g,r,hn):=hc;unfold foFre at hc;split at hc
 ·obtain ⟨rfl,rfl,rfl⟩:=aN hc;cases aY (aKl _) (aKm _ hg);exact ⟨rfl,by kernel_rfl,_,by assumption⟩
 ·cases hc
def aFu:List AV->Option (Option Prop×AV×List Ob)
 | [.k (.list .q) p]=>some (some (FcF p),.k (.list (.list .q)) (aAw p),[])
 | _=>none
def aH0:az:=⟨8,false,aFu⟩
def aH1 (p:List Rat):bk:=⟨nU,fun key_=>match key_ with
 | 4=>some (⟨Nat×List Rat×List Rat×List (List Rat),fun x=>[(3,.own 3 0 1),(4,.k (.list .q) x.2.2.1),(5,.k (.list .q) x.2.1)],fun x=>[(3,.arr 26 (.list .q) x.2.2.2)],fun _ x=>aCG x.1 x.2.1 x.2.2.1/\x.2.2.2++aAv x.1 x.2.1 x.2.2.1=aAw p/\x.2.2.2.length+x.1=p.length,fun x=>x.1⟩) | _=>none,nR,nU⟩
def aFv (p:List Rat):Prop:=DeF p/\GcF p (auM p)/\DvF p (ajJ p (auM p))/\∃(x0:Nat×List Rat×List Rat×List (List Rat)),((ajJ p (auM p)=x0.2.2.1/\ovL p (ajJ p (auM p))=x0.2.1)
 /\ x0.2.2.2=[])/\(aCG x0.1 x0.2.1 x0.2.2.1/\x0.2.2.2++aAv x0.1 x0.2.1 x0.2.2.1=aAw p/\x0.2.2.2.length+x0.1=p.length)/\∀(x:Nat×List Rat×List Rat ×
 List (List Rat)),aCG x.1 x.2.1 x.2.2.1/\x.2.2.2++aAv x.1 x.2.1 x.2.2.1=aAw p/\x.2.2.2.length+x.1=p.length->x.2.1.length<=aB->bif decide ((1:Int) <
 (↑x.2.1.length:Int)) then GcF x.2.1 x.2.2.1/\DvF x.2.1 (ajJ x.2.1 x.2.2.1)/\x.2.2.2.length+[ovL x.2.1 (ajJ x.2.1 x.2.2.1)].length<=aB/\DvF x.2.2.1 (ajJ x.2.1
 x.2.2.1)/\∃(x':Nat×List Rat×List Rat×List (List Rat)),((ovL x.2.2.1 (ajJ x.2.1 x.2.2.1)=x'.2.2.1/\ajJ x.2.1 x.2.2.1=x'.2.1)/\x.2.2.2.append [ovL x.2.1
 (ajJ x.2.1 x.2.2.1)]=x'.2.2.2)/\(aCG x'.1 x'.2.1 x'.2.2.1/\x'.2.2.2++aAv x'.1 x'.2.1 x'.2.2.1=aAw p/\x'.2.2.2.length+x'.1=p.length)/\x'.1<x.1 else
 x.2.2.2=aAw p
theorem aGZ (p:List Rat):aw LO8 [] (aH1 p) Tryz.f8 (.k (.list (.list .q)) (aAw p)) [.k (.list .q) p]=aFv p:=by kernel_rfl
theorem aG0 (p:List Rat) (hg:FcF p) (hf:cJ [.k (.list .q) p]):aFv p:=by
 unfold aFv;obtain ⟨⟨h1,h2,h3⟩,h4⟩:=hg;have hL:p.length<=aB:=hf.1.1;have e0:aAw p=aAv p.length (ovL p (ajJ p (auM p))) (ajJ p (auM p)):=by unfold aAw frL;rfl
 unfold frL at h4;rw [e0];clear e0 hf;generalize auM p=d at *
 generalize ajJ p d=r0 at *
 generalize ovL p r0=f0 at *
 generalize hz:aAv p.length f0 r0=z at *
 refine ⟨h1,h2,h3,(p.length,f0,r0,[]),⟨⟨rfl,rfl⟩,rfl⟩,⟨h4,hz,jo _⟩,?_⟩;clear h1 h2 h3 h4 hz;rintro ⟨n,f,r,out⟩ ⟨hk,he,hl⟩ _;dsimp only at hk he hl ⊢;refine aH (fun h=>?_) fun h=>?_
 ·have h1:1<f.length:=by omega
  cases n with
  | zero=>exact absurd hk (by show ¬f.length<=1;omega)
  | succ n=>
   obtain ⟨k1,k2,k3,k4⟩:=hk h1;have e:aAv (n+1) f r=ovL f (ajJ f r)::aAv n (ajJ f r) (ovL r (ajJ f r)):=bF (by omega);rw [e] at he;generalize ajJ f r=g at *
   generalize ovL f g=o at *
   generalize ovL r g=r' at *
   refine ⟨k1,k2,by simp;omega,k3,(n,g,r',out.append [o]),⟨⟨rfl,rfl⟩,rfl⟩,⟨k4,?_,?_⟩,Av n⟩
   ·rw [<-he];simp
   ·dsimp only;simp;omega
 ·have e:aAv n f r=[]:=by
   cases n with
   | zero=>rfl
   | succ n=>exact c6 (by omega)
  rw [e] at he;rw [<-he];simp
theorem aG1:ah (cfg []) aH0:=fnK aIJ bp Tryz.func8 (by kernel_rfl) fun args g r hn hc hg hf=>by
 replace hc:aFu args=some (g,r,hn):=hc;unfold aFu at hc;split at hc
 ·obtain ⟨rfl,rfl,rfl⟩:=aN hc;cases aY (aGZ _) (aG0 _ hg hf);exact ⟨rfl,by kernel_rfl,_,by assumption⟩
 ·cases hc
end Go.Proofs.YtncndgpchogadaaGreatDoor.AM
namespace Go.Proofs.YtncndgpchogadaaGreatDoor
open Go.RowKit
theorem ae1 (d:Nat) (h:d=1\/d=2) (w:World) :
  Calls Tryz.prog 172 #[.int .u64 d,.int .i64 10] w fun e w'=>e = .returned (.string (abQ d))/\w'=w:=by
 have aiQ:∀W,Calls Tryz.prog 187 #[.int .i64 d] W fun e w'=>e = .returned (.string (abQ d))/\w'=W:=by
  intro W;rcases h with rfl | rfl
  all_goals
   go_enter Tryz.func187,Tryz.ntmps187
   go_wp2
   go_ret
   exact ⟨rfl,rfl⟩
 have ajq:∀W,Calls Tryz.prog 183 #[.int .u64 d,.int .i64 10] W fun e w'=>e = .returned (.string (abQ d))/\w'=W:=by
  intro W;have H:=aad aiQ;clear aiQ;have h1:(d:Int)<100:=by omega
  have h2:(0:Int)<=d:=by omega
  generalize abQ d=t at *
  clear h;generalize (d:Int)=z at *
  go_enter Tryz.func183,Tryz.ntmps183
  go_wp2_with (go_at_call 187;refine (H.out _).mono ?_;rintro e w' ⟨rfl,rfl⟩)
  go_ret
  exact ⟨rfl,rfl⟩
 have H:=aad ajq
 clear aiQ ajq h
 generalize abQ d=t at *
 generalize (d:Int)=z at *
 go_enter Tryz.func172,Tryz.ntmps172
 go_wp2_with (go_at_call 183;refine (H.out _).mono ?_;rintro e w' ⟨rfl,rfl⟩)
 go_ret
 exact ⟨rfl,rfl⟩
theorem aiR {n:Nat} (h:n=1\/n=2) (W:World):Calls Tryz.prog 150 #[.agg #[.int .u64 (lo (n):Nat),.string (hi (n))]] W (Ret (.string (abQ n)) W):=agb n (by unfold aa;omega) _ (fun W=>(ae1 n h W).mono fun _ _ hh=>⟨hh.1,by rw [hh.2];exact Ext.refl _⟩) W
end Go.Proofs.YtncndgpchogadaaGreatDoor
namespace Go.Proofs.YtncndgpchogadaaGreatDoor
open Go.RowKit
theorem aG2 (d:Nat) (h:d=2\/d=3\/d=4\/d=5\/d=6\/d=7\/d=8\/d=9) (w:World):Calls Tryz.prog 119 #[.int .i64 d] w fun e w'=>e = .returned (.string (abQ d))/\w'=w:=by
 have h1:∀W,Calls Tryz.prog 187 #[.int .i64 d] W fun e w'=>e = .returned (.string (abQ d))/\w'=W:=by
  intro W;rcases h with rfl | rfl | rfl | rfl | rfl | rfl | rfl | rfl
  all_goals
   go_enter Tryz.func187,Tryz.ntmps187
   go_wp2
   go_ret
   exact ⟨rfl,rfl⟩
 have h2:∀W,Calls Tryz.prog 174 #[.int .i64 d,.int .i64 10] W fun e w'=>e = .returned (.string (abQ d))/\w'=W:=by
  intro W;have H:=aad h1;clear h1;have h1:(d:Int)<100:=by omega
  have h2:(0:Int)<=d:=by omega
  generalize abQ d=t at *
  clear h;generalize (d:Int)=z at *
  go_enter Tryz.func174,Tryz.ntmps174
  go_wp2_with (go_at_call 187;refine (H.out _).mono ?_;rintro e w' ⟨rfl,rfl⟩)
  go_ret
  exact ⟨rfl,rfl⟩
 have h3:∀W,Calls Tryz.prog 151 #[.int .i64 d] W fun e w'=>e = .returned (.string (abQ d))/\w'=W:=by
  intro W;have H:=aad h2;clear h1 h2 h;generalize abQ d=t at *
  generalize (d:Int)=z at *
  go_enter Tryz.func151,Tryz.ntmps151
  go_wp2_with (go_at_call 174;refine (H.out _).mono ?_;rintro e w' ⟨rfl,rfl⟩)
  go_ret
  exact ⟨rfl,rfl⟩
 have H:=aad h3;clear h1 h2 h3 h;generalize abQ d=t at *
 generalize (d:Int)=z at *
 go_enter Tryz.func119,Tryz.ntmps119
 go_wp2_with (go_at_call 151;refine (H.out _).mono ?_;rintro e w' ⟨rfl,rfl⟩)
 go_ret
 exact ⟨rfl,rfl⟩
end Go.Proofs.YtncndgpchogadaaGreatDoor
namespace Go.Proofs.YtncndgpchogadaaGreatDoor.AM
open Go.RowKit
def NtP (n:Nat):Prop:=n=1\/n=2
def auq (n:Nat):ByteArray:=abQ n
theorem aAN {n:Nat} (_:NtP n):(auq n).size<=200000:=by show 1<=200000;omega
def aFw:az:=⟨150,false,on1 .nat (fun n=>some (NtP n)) fun n=>.k .str (auq n)⟩
theorem aD5:ah (cfg []) aFw:=nB (enters_of Tryz.func150 (by kernel_rfl) rfl) (fun _=>rfl) fun F n u w hg ht hu=>by obtain rfl:=hu.lu;exact Calls.mono (aiR hg w) fun e w' ⟨h1,h2⟩=>⟨_,h1,h2,.mkStr _⟩
def aF0:az:=⟨119,false,on1 (.int .i64) (fun (n:Int)=>some ((2:Int)<=n/\n<=(9:Int))) fun (n:Int)=>.k .str (abQ (Int.toNat n))⟩
theorem aFx:ah (cfg []) aF0:=nB (enters_of Tryz.func119 (by kernel_rfl) rfl) (fun _=>rfl) fun F (n:Int) u w hg ht hu=>by have h1:(2:Int)<=n:=hg.1;have h2:n<=(9:Int):=hg.2;obtain ⟨d,rfl⟩:=yZ (show (0:Int)<=n by omega);have hu:=hu.int;subst hu;exact Calls.mono (aG2 d (by omega) w) fun e w' ⟨h1,h2⟩=>⟨_,h1,by rw [h2];exact Ext.refl _,.mkStr _⟩
end Go.Proofs.YtncndgpchogadaaGreatDoor.AM
namespace Go.Proofs.YtncndgpchogadaaGreatDoor.AM
open Go.RowKit
def qTx (x:Rat):ByteArray:=if x.den=1 then auq x.num.natAbs else auq x.num.natAbs++(⟨#[47]⟩:ByteArray)++auq x.den
def QtP (x:Rat):Prop:=0<=x.num/\NtP x.num.natAbs/\(x.den≠1->NtP x.den)/\Sq BQ x
noncomputable def LO9:List az:=aFw::[]
theorem aIK:bd LO9:=⟨aD5,trivial⟩
def foZTx:List AV->Option (Option Prop×AV×List Ob)
 | [.k .z x]=>some (some (0<=x/\NtP x.natAbs),.k .str (auq x.natAbs),[])
 | _=>none
def aH2:az:=⟨149,false,foZTx⟩
def aH3 (x:Int):bk:=⟨nU,nL,nR,nU⟩
def aFy (x:Int):Prop:=bif decide (x<(0:Int)) then NtP x.natAbs/\(⟨#[45]⟩:ByteArray).size+(auq x.natAbs).size<=(9223372036854775807:Nat)/\(⟨#[45]⟩:ByteArray)++auq x.natAbs =
 auq x.natAbs else NtP x.natAbs/\auq x.natAbs=auq x.natAbs
theorem aG3 (x:Int):aw LO9 [] (aH3 x) Tryz.f149 (.k .str (auq x.natAbs)) [.k .z x]=aFy x:=by kernel_rfl
theorem aG4 (x:Int) (hg:0<=x/\NtP x.natAbs):aFy x:=by unfold aFy;exact aH (fun h=>absurd hg.1 (by omega)) fun _=>⟨hg.2,rfl⟩
theorem aG5:ah (cfg []) aH2:=fnK aIK bp Tryz.func149 (by kernel_rfl) fun args g r hn hc hg hf=>by
 replace hc:foZTx args=some (g,r,hn):=hc;unfold foZTx at hc;split at hc
 ·obtain ⟨rfl,rfl,rfl⟩:=aN hc;cases aY (aG3 _) (aG4 _ hg);exact ⟨rfl,by kernel_rfl,_,by assumption⟩
 ·cases hc
noncomputable def aIW:List az:=aH2::FI::aFw::[]
theorem aH4:bd aIW:=⟨aG5,FL,aD5,trivial⟩
def foQTx:List AV->Option (Option Prop×AV×List Ob)
 | [.k .q x]=>some (some (QtP x),.k .str (qTx x),[])
 | _=>none
def aH5:az:=⟨118,false,foQTx⟩
def aH6 (x:Rat):bk:=⟨fun key_=>match key_ with | 3=>6 | _=>0,nL,nR,nU⟩
def aFz (x:Rat):Prop:=Sq BQ x/\bif decide (x.den=(1:Nat)) then ((0:Int)<=x.num/\NtP x.num.natAbs)/\auq x.num.natAbs=qTx x else ((0:Int)<=x.num/\NtP x.num.natAbs)/\(auq
 x.num.natAbs).size+(⟨#[47]⟩:ByteArray).size<=(9223372036854775807:Nat)/\NtP (d1 x.den)/\(auq x.num.natAbs++(⟨#[47]⟩:ByteArray)).size+(auq (d1
 x.den)).size<=(9223372036854775807:Nat)/\auq x.num.natAbs++(⟨#[47]⟩:ByteArray)++auq (d1 x.den)=qTx x
theorem aG6 (x:Rat):aw aIW [] (aH6 x) Tryz.f118 (.k .str (qTx x)) [.k .q x]=aFz x:=by kernel_rfl
theorem aG7 (x:Rat) (hg:QtP x):aFz x:=by unfold aFz;obtain ⟨h1,h2,h3,h4⟩:=hg;have l1:=aAN h2;have s1:(⟨#[47]⟩:ByteArray).size=1:=rfl;refine ⟨h4,aH (fun h=>⟨⟨h1,h2⟩,(c6 h).symm⟩) fun h=>?_⟩;have h5:=h3 h;have l2:=aAN h5;rw [show d1 x.den=x.den from bF h];exact ⟨⟨h1,h2⟩,by omega,h5,by rw [yf];omega,(bF h).symm⟩
theorem aG8:ah (cfg []) aH5:=fnK aH4 bp Tryz.func118 (by kernel_rfl) fun args g r hn hc hg hf=>by
 replace hc:foQTx args=some (g,r,hn):=hc;unfold foQTx at hc;split at hc
 ·obtain ⟨rfl,rfl,rfl⟩:=aN hc;cases aY (aG6 _) (aG7 _ hg);exact ⟨rfl,by kernel_rfl,_,by assumption⟩
 ·cases hc
theorem aEH {x:Rat} (h:QtP x):(qTx x).size<=500000:=by
 obtain ⟨_,h2,h3,_⟩:=h;have l1:=aAN h2;unfold qTx;split
 ·omega
 ·rename_i h;have l2:=aAN (h3 h);have s1:(⟨#[47]⟩:ByteArray).size=1:=rfl;rw [yf,yf];omega
def tmT (x:Rat) (n:Nat):ByteArray:=if n=0 then qTx x else if x=1 then (if 1<n then (⟨#[120]⟩:ByteArray)++((⟨#[94]⟩:ByteArray)++abQ n) else (⟨#[120]⟩:ByteArray)) else qTx x++(⟨#[42]⟩:ByteArray)++(if 1<n then (⟨#[120]⟩:ByteArray)++((⟨#[94]⟩:ByteArray)++abQ n) else (⟨#[120]⟩:ByteArray))
noncomputable def aIX:List az:=aH5::aF0::Ke::aa5::[]
theorem aH7:bd aIX:=⟨aG8,aFx,z7,V5,trivial⟩
def foTm:List AV->Option (Option Prop×AV×List Ob)
 | [.k .q x,.k (.int .i64) ((n:Nat):Int)]=>some (some (QtP x/\n<=9),.k .str (tmT x n),[])
 | _=>none
def aL6:az:=⟨74,false,foTm⟩
def aIL (x:Rat) (n:Nat):bk:=⟨fun key_=>match key_ with | 6=>2 | _=>0,nL,nR,nU⟩
def aH8 (x:Rat) (n:Nat):Prop:=
 let t1:=(⟨#[94]⟩:ByteArray)++abQ (↑n:Int).toNat;
 bif decide ((↑n:Int)=(0:Int)) then QtP x/\qTx x=tmT x n else bif decide ((1:Int)<(↑n:Int)) then ((2:Int)<=(↑n:Int)/\(↑n:Int)<=(9:Int)) /\
 (⟨#[94]⟩:ByteArray).size+(abQ (↑n:Int).toNat).size<=(9223372036854775807:Nat)/\(⟨#[120]⟩:ByteArray).size+t1.size<=(9223372036854775807:Nat)/\amE
 (1:Int)/\(Sq BQ x/\Sq BQ (↑(1:Int):Rat))/\bif decide (fS x (↑(1:Int):Rat)=(0:Int)) then (⟨#[120]⟩:ByteArray)++t1=tmT x n else QtP x/\(qTx
 x).size+(⟨#[42]⟩:ByteArray).size<=(9223372036854775807:Nat)/\(qTx x++(⟨#[42]⟩:ByteArray)).size+((⟨#[120]⟩:ByteArray)++t1).size<=(9223372036854775807 :
 Nat)/\qTx x++(⟨#[42]⟩:ByteArray)++((⟨#[120]⟩:ByteArray)++t1)=tmT x n else amE (1:Int)/\(Sq BQ x/\Sq BQ (↑(1:Int):Rat))/\bif decide (fS x (↑(1 :
 Int):Rat)=(0:Int)) then (⟨#[120]⟩:ByteArray)=tmT x n else QtP x/\(qTx x).size+(⟨#[42]⟩:ByteArray).size<=(9223372036854775807:Nat)/\(qTx x++(⟨#[42]⟩ :
 ByteArray)).size+(⟨#[120]⟩:ByteArray).size<=(9223372036854775807:Nat)/\qTx x++(⟨#[42]⟩:ByteArray)++(⟨#[120]⟩:ByteArray)=tmT x n
theorem aH9 (x:Rat) (n:Nat):aw aIX [] (aIL x n) Tryz.f74 (.k .str (tmT x n)) [.k .q x,.k (.int .i64) ((n:Nat):Int)]=aH8 x n:=by kernel_rfl
theorem aIa (x:Rat) (n:Nat) (hg:QtP x/\n<=9):aH8 x n:=by
 unfold aH8;dsimp only;obtain ⟨h1,h2⟩:=hg;have hl:=aEH h1;have s1:(⟨#[94]⟩:ByteArray).size=1:=rfl;have s2:(⟨#[120]⟩:ByteArray).size=1:=rfl;have s3:(⟨#[42]⟩:ByteArray).size=1:=rfl;have s4:(abQ n).size=1:=rfl;have i1:amE 1:=⟨by omega,by omega⟩
 have o1:Sq BQ (1:Rat):=(Sq.int (n:=1) Sm.one (aV 1)).le BQp;have e1:((1:Int):Rat)=1:=rfl;rw [e1,show ((n:Nat):Int).toNat=n from rfl];refine aH (fun h=>⟨h1,(c6 (by omega)).symm⟩) fun h=>aH (fun h'=>⟨⟨by omega,by omega⟩,by omega,by rw [yf];omega,i1,⟨h1.2.2.2,o1⟩,aH (fun h3=>?_) fun h3=>?_⟩) fun h'=>⟨i1,⟨h1.2.2.2,o1⟩,aH (fun h3=>?_) fun h3=>?_⟩
 ·unfold tmT;rw [bF (by omega),c6 (gz.1 h3),c6 (by omega)]
 ·unfold tmT;rw [bF (by omega),bF (fun e=>h3 (gz.2 e)),c6 (by omega)];exact ⟨h1,by omega,by rw [yf,yf,yf];omega,rfl⟩
 ·unfold tmT;rw [bF (by omega),c6 (gz.1 h3),bF (by omega)]
 ·unfold tmT;rw [bF (by omega),bF (fun e=>h3 (gz.2 e)),bF (by omega)];exact ⟨h1,by omega,by rw [yf];omega,rfl⟩
theorem aIb:ah (cfg []) aL6:=fnK aH7 bp Tryz.func74 (by kernel_rfl) fun args g r hn hc hg hf=>by
 replace hc:foTm args=some (g,r,hn):=hc;unfold foTm at hc;split at hc
 ·obtain ⟨rfl,rfl,rfl⟩:=aN hc;cases aY (aH9 _ _) (aIa _ _ hg);exact ⟨rfl,by kernel_rfl,_,by assumption⟩
 ·cases hc
def aqR (x:Rat):Rat:=bif decide (x.num<0) then -x else x
noncomputable def aIY:List az:=sj::JA::[]
theorem aIc:bd aIY:=⟨nG,zV,trivial⟩
def aFA:List AV->Option (Option Prop×AV×List Ob)
 | [.k .q x]=>some (some (Sq BQ x),.k .q (aqR x),[])
 | _=>none
def aKt:az:=⟨75,false,aFA⟩
def aId (x:Rat):bk:=⟨fun key_=>match key_ with | 1=>6 | _=>0,nL,nR,nU⟩
def aFB (x:Rat):Prop:=Sm BN x.num.natAbs/\On (bW false x.num.natAbs) (d1 x.den)/\j6 (bW false x.num.natAbs) (d1 x.den)=aqR x
theorem aG9 (x:Rat):aw aIY [] (aId x) Tryz.f75 (.k .q (aqR x)) [.k .q x]=aFB x:=by kernel_rfl
theorem aHa (x:Rat) (hg:Sq BQ x):aFB x:=by
 unfold aFB aqR;refine ⟨hg.num.le (by unfold BQ BN;omega),?_⟩;have key:∀z:Rat,On z.num (d1 z.den):=fun z=>by
  by_cases e:z.den=1
  ·exact .inl (FH.2 e)
  ·refine .inr ?_;unfold d1;rw [bF e];exact ⟨e,z.reduced⟩
 by_cases h:x.num<0
 ·rw [sD h,show bW false x.num.natAbs=(-x).num from (by rw [Rat.neg_num];show ((x.num.natAbs:Nat):Int)=_;omega)];exact ⟨key (-x),ZL (-x)⟩
 ·rw [nc h,show bW false x.num.natAbs=x.num from (by show ((x.num.natAbs:Nat):Int)=_;omega)];exact ⟨key x,ZL x⟩
theorem aHb:ah (cfg []) aKt:=fnK aIc bp Tryz.func75 (by kernel_rfl) fun args g r hn hc hg hf=>by
 replace hc:aFA args=some (g,r,hn):=hc;unfold aFA at hc;split at hc
 ·obtain ⟨rfl,rfl,rfl⟩:=aN hc;cases aY (aG9 _) (aHa _ hg);exact ⟨rfl,by kernel_rfl,_,by assumption⟩
 ·cases hc
def pcB (xs:List Rat) (j:Nat):List UInt8:=if co xs j=0 then [] else (if j+1=xs.length then (if co xs j<0 then [45] else []) else if co xs j<0 then [32,45,32] else [32,43,32])++(tmT (aqR (co xs j)) j).data.toList
def txB (xs:List Rat):Nat->List UInt8
 | 0=>[]
 | m+1=>txB xs m++pcB xs (xs.length-1-m)
def aEn (xs:List Rat):ByteArray:=if (abR xs).length=0 then ⟨#[48]⟩ else ⟨(txB (abR xs) (abR xs).length).toArray⟩
def TxP (xs:List Rat):Prop:=SL BQ xs/\(abR xs).length<=10/\∀j,co xs j≠0->QtP (aqR (co xs j))
abbrev qCv (x:Rat):Value:=.agg (qC x).toArray
theorem aF1 {f:FuncId} {c:List AV->Option (Option Prop×AV×List Ob)} {x:Rat} {g:Option Prop} {r:AV} (h:ah (cfg []) ⟨f,false,c⟩) (hc:c [.k .q x]=some (g,r,[])) (hg:bt g) (hr:r.owns=false) (W:World) (ht:cK W) :
  Calls Tryz.prog f #[qCv x] W fun e w'=>∃v,e = .returned v/\Ext W w'/\aq (fun _=>True) w' dX r v:=
 qV h hc hg hr ht (vs:=[qCv x]) ⟨⟨_,rfl,rfl⟩,trivial⟩
theorem apM {T e:TypeId} {B b:Nat} {bs:List Value} {w w':World} (h:Lib.IsBuilder T e B b bs w) (hx:Ext w w'):Lib.IsBuilder T e B b bs w':=by
 have hg:w.grownBy w' none:=⟨hx.os,hx.tape,hx.output,hx.size,fun k hk _=>hx.block k hk⟩
 have key:∀{p:Value},Lib.BuilderAt T e B b p bs w->Lib.BuilderAt T e B b p bs w':=fun {p} h=>by have aU:=h.lt;obtain ⟨hB,v,hb,kU,ay⟩:=h;exact ⟨hB,v,(hx.block b aU).trans hb,kU.kept hg (by cases v.ownBlock <;> simp),ay⟩
 rcases h with h | h
 ·exact .inl (key h)
 ·exact .inr (key h)
theorem aIM {xs:List Rat} {v:Value} {w:World} (h:aq (fun _=>True) w dX (.k (.list .q) xs) v) (h0:0<xs.length):∃g off c,v = .slice (some ⟨g,off,none⟩) xs.length c/\g<w.heap.size/\∀j,j<xs.length->fF w g (off+j*5) (qC (co xs j)):=by obtain ⟨cs,⟨A,c,rfl,h1,h2,h3⟩,rfl⟩:=h;obtain ⟨g,off,css,rfl,_,h5,h6,h7,h8⟩:=h3 (fun e=>by rw [e] at h0;simp at h0);refine ⟨g,off,c,rfl,h5,fun j hj=>?_⟩;have lz:css[j]? = some css[j]:=bX (by omega);have hk:=h8 j _ _ (fG hj (0:Rat)) lz;have hk:css[j]=qC (co xs j):=hk;rw [<-hk];exact sU h6 (aLh h7 h8) lz
theorem aEJ {w W:World} {g off B:Nat} {cs:List Value} (h:fF w g off cs) (hg:g<B) (b:Below B w W):fF W g off cs:=fun i hi=>(World.cell?_of_block (a:=⟨g,off+i,none⟩) (b.block g hg)).trans (h i hi)
theorem aF2 {x:Rat} {n:Nat} (h:QtP x):(tmT x n).size<=600000:=by
 have hl:=aEH h;have s1:(⟨#[94]⟩:ByteArray).size=1:=rfl;have s2:(⟨#[120]⟩:ByteArray).size=1:=rfl;have s3:(⟨#[42]⟩:ByteArray).size=1:=rfl;have s4:(abQ n).size=1:=rfl;unfold tmT;repeat' split
 all_goals (try simp only [yf])
 all_goals omega
theorem aIN {xs:List Rat} {j:Nat} (h:co xs j≠0->QtP (aqR (co xs j))):(pcB xs j).length<=600003:=by
 unfold pcB;split
 ·exact fK _
 ·rename_i h0;have:=aF2 (n:=j) (h h0);have e:(tmT (aqR (co xs j)) j).data.toList.length=(tmT (aqR (co xs j)) j).size:=tJ;rw [dW,e];have h3:∀l:List UInt8,l.length<=3->l.length+(tmT (aqR (co xs j)) j).size<=600003:=fun l hl=>by omega
  refine h3 _ ?_;(repeat' split) <;> decide
theorem aF3 {xs:List Rat} (h:∀j,co xs j≠0->QtP (aqR (co xs j))):∀m,(txB xs m).length<=600003*m
 | 0=>aV _
 | m+1=>by show (txB xs m++pcB xs _).length<=_;have:=aF3 h m;have:=aIN (h (xs.length-1-m));rw [dW,q9];omega
theorem sign_neg {x:Rat} (h:x<0):x.num.sign = -1:=by
 refine tK ?_;rcases Jn x.num 0 with h1 | h1
 ·exact h1
 ·exact absurd (Rat.num_nonneg.1 h1) (Rat.not_le.2 h)
theorem aD6 {x:Rat} (h0:x≠0) (h:¬x<0):x.num.sign=1:=by refine tM ?_;have h1:0<=x.num:=Rat.num_nonneg.2 (Rat.not_lt.1 h);have h2:x.num≠0:=fun e=>h0 (AD.1 e);omega
theorem aFC (xs:List Rat) (hg:TxP xs) (w:World) (v:Value) (ht:cK w) (hv:aq (fun _=>True) w dX (.k (.list .q) xs) v):Calls Tryz.prog 31 #[v] w (Ret (.string (aEn xs)) w):=by
 obtain ⟨hs,aF4,hq⟩:=hg;have HT:Hid (Calls Tryz.prog 53 #[v] w fun e w'=>∃v,e = .returned v/\Ext w w'/\aq (fun _=>True) w' dX (.k (.list .q) (abR xs)) v):=aad (qV aCB (args:=[.k (.list .q) xs]) rfl hs rfl ht (vs:=[v]) ⟨hv,trivial⟩);have HTB:=aad (fun W (e:Ext w W)=>mW ht e);have Yy:=hs.trim;have ez:∀j,co (abR xs) j=co xs j:=amP xs;unfold aEn;have hq':∀j,co (abR xs) j≠0->QtP (aqR (co (abR xs) j)):=fun j=>by rw [ez];exact hq j
 have HQ:=aad hq';have HL:=aad aF4;have HSL:=aad Yy;clear hq hq' ez hs ht aF4 Yy;generalize abR xs=ys at *
 obtain ⟨cs,⟨A,c,rfl,aFD⟩,rfl⟩:=hv;clear aFD;show Calls Tryz.prog 31 #[.slice A xs.length c] w _;replace HT:Hid (Calls Tryz.prog 53 #[.slice A xs.length c] w fun e w'=>∃v,e = .returned v/\Ext w w'/\aq (fun _=>True) w' dX (.k (.list .q) ys) v):=HT;generalize xs.length=nx at *
 obtain ⟨R,hR⟩:∃R,R=(if ys.length=0 then (⟨#[48]⟩:ByteArray) else ⟨(txB ys ys.length).toArray⟩):=⟨_,rfl⟩
 rw [<-hR];have HR:=aad hR;clear hR;go_enter Tryz.func31,Tryz.ntmps31
 go_wp2_with fail
 refine (HT.out).mono ?_;rintro e w1 ⟨v',rfl,hx,hv⟩;have HX1:=aad hx;clear HT hx;by_cases h0:ys.length=0
 ·obtain ⟨cs,⟨A',c',rfl,aFD⟩,rfl⟩:=hv;clear aFD;have hr:=HR.out;rw [c6 h0] at hr;subst hr;rw [h0,show pack (AV.k (.list .q) ys).row [Value.slice A' 0 c'] = .slice A' 0 c' from rfl];clear h0 HQ HL HSL HTB HR;go_wp2
  go_ret
  exact ⟨rfl,HX1.out⟩
 ·obtain ⟨g,off,c',rfl,hgl,aIZ⟩:=aIM hv (by omega);clear hv;have hr:=HR.out;rw [bF h0] at hr;have uM:=aad hr;clear HR hr;have aF4:=HL.out;have hni:(0:Int)<(ys.length:Int):=by omega
  have O9:(ys.length:Int)<=10:=by omega
  have hnz:((ys.length:Int) == 0)=false:=by rw [pq];omega
  have HN:=aad h0;have HG:=aad hgl;have HLI:=aad aIZ;clear h0 hgl aIZ aF4;generalize hn:ys.length=n at *
  have HNE:=aad hn;have HTL:=aad (fun m=>aF3 HQ.out m);clear hn;have HWS:Hid (∀W l (s:ByteArray),Lib.IsBuilder 100 5 w1.heap.size w1.heap.size (Lib.byteCells l) W->l.length+s.size<=100000000->Below w1.heap.size w1 W->Calls Tryz.prog 73 #[.pointer (some ⟨w1.heap.size,0,none⟩),.string s] W (fun e w'=>e = .returned (.tuple #[.int .i64 s.size,.nilIface])/\Lib.IsBuilder 100 5 w1.heap.size w1.heap.size (Lib.byteCells (l++s.data.toList)) w'/\Below w1.heap.size w1 w')):=aad (fun W l s h1 h2 h3=>by
   refine (aCj w1.heap.size w1.heap.size _ s W h1 (by rw [Lib.byteCells_length];omega) h3.size).mono ?_;rintro e w' ⟨rfl,uE,AO⟩;refine ⟨rfl,.inr ?_,h3.trans AO⟩;have e:Lib.strCells s=Lib.byteCells s.data.toList:=by unfold Lib.strCells Lib.byteCells;simp
   rw [Lib.byteCells_append, <- e];exact uE)
  go_wp2
  have HBD:=aad (Lib.fresh_isBuilder 100 5 w1);generalize hW3:w1.alloc (.cells #[.pointer none,.slice none 0 0] 100)=W3 at *
  have HX3:Hid (Below w1.heap.size w1 W3):=aad (by rw [<-hW3];exact (Below.refl _ _).alloc (aV _) _);clear hW3;go_loopw [4] (fun z wr=>∃k:Nat,k<=n/\z = .int .i64 ((k:Int)-1)/\Hid (Lib.IsBuilder 100 5 w1.heap.size w1.heap.size (Lib.byteCells (txB ys (n-k))) wr)/\Hid (Below w1.heap.size w1 wr)) (fun z _=>(intOf z+1).toNat)
  case atStart=>refine ⟨n,aV _,rfl,aad ?_,HX3⟩;rw [AB];exact HBD.out
  case round=>
   obtain ⟨k,hk,rfl,HB,HE⟩:=hrel;clear HBD HX3;by_cases AG:k=0
   ·subst AG;have HS:=aad (Tryz.Builder_String_any w1.heap.size w1.heap.size _ wr HB.out HE.out.size);go_wp2_with fail
    refine (HS.out).mono ?_;rintro e w5 ⟨rfl,Zv⟩;have HX5:=aad Zv;clear Zv;go_wp2
    go_ret
    refine ⟨?_,Below.trans HX1.out (Below.mono (HE.out.trans HX5.out) HX1.out.size)⟩;rw [uM.out];rfl
   ·obtain ⟨j,rfl⟩:∃j,k=j+1:=⟨k-1,by omega⟩
    rw [show ((j+1:Nat):Int)-1=(j:Int) from by omega];have hjn:(j:Int)<(n:Int):=by omega
    have aMb:j<=9:=by omega
    have HTX:Hid (txB ys (n-j)=txB ys (n-(j+1))++pcB ys j):=aad (by have h:txB ys (n-(j+1)+1)=txB ys (n-(j+1))++pcB ys (ys.length-1-(n-(j+1))):=rfl;rw [HNE.out,show n-1-(n-(j+1))=j by omega,show n-(j+1)+1=n-j by omega] at h;exact h)
    have aF5:=aad (fun W (b:Below w1.heap.size w1 W)=>HTB.out W (Below.trans HX1.out (Below.mono b HX1.out.size)));have hix:∀W,(Instr.indexAt 26 (.slice (some ⟨g,off,none⟩) n c') (.int .i64 (j:Nat))).run Tryz.prog W = .ok (.pointer (some ⟨g,off+j*5,none⟩)) W:=fun W=>Ig (sz:=5) (i:=(j:Int)) (by kernel_rfl) ⟨by omega,by omega⟩;obtain ⟨c0,c1,c2,c3,c4,hq5⟩:∃c0 c1 c2 c3 c4,qC (co ys j)=[c0,c1,c2,c3,c4]:=⟨_,_,_,_,_,rfl⟩
    have ev:qCv (co ys j) = .agg #[c0,c1,c2,c3,c4]:=by show Value.agg (qC _).toArray=_;rw [hq5]
    have HLD:Hid (∀W,Below w1.heap.size w1 W->W.cell? ⟨g,off+j*5,none⟩=some c0/\W.cell? ⟨g,off+j*5+1,none⟩=some c1/\W.cell? ⟨g,off+j*5+2,none⟩=some c2/\W.cell? ⟨g,off+j*5+3,none⟩=some c3/\W.cell? ⟨g,off+j*5+4,none⟩=some c4):=aad (fun W b=>by have h:=aEJ (HLI.out j (by have:=HNE.out;omega)) HG.out b;rw [hq5] at h;exact ⟨h 0 (by simp),h 1 (by simp),h 2 (by simp),h 3 (by simp),h 4 (by simp)⟩)
    have HSG:Hid (∀W,Below w1.heap.size w1 W->Calls Tryz.prog 61 #[qCv (co ys j)] W fun e w'=>e = .returned (.int .i64 (co ys j).num.sign)/\Ext W w'):=aad (fun W b=>by refine Calls.mono (aF1 J0 rfl (HSL.out j) rfl W (aF5.out W b)) ?_;rintro e w' ⟨v,rfl,h1,h2⟩;rw [h2.int];exact ⟨rfl,h1⟩)
    have HAB:Hid (∀W,Below w1.heap.size w1 W->Calls Tryz.prog 75 #[qCv (co ys j)] W fun e w'=>e = .returned (qCv (aqR (co ys j)))/\Ext W w'):=aad (fun W b=>by refine Calls.mono (aF1 aHb rfl (HSL.out j) rfl W (aF5.out W b)) ?_;rintro e w' ⟨v,rfl,h1,⟨cs,h2,rfl⟩⟩;exact ⟨by rw [show cs=qC (aqR (co ys j)) from h2];rfl,h1⟩)
    have HTM:Hid (co ys j≠0->∀W,Below w1.heap.size w1 W->Calls Tryz.prog 74 #[qCv (aqR (co ys j)),.int .i64 (j:Nat)] W fun e w'=>e = .returned (.string (tmT (aqR (co ys j)) j))/\Ext W w'):=aad (fun h0 W b=>by refine Calls.mono (qV aIb (args:=[.k .q (aqR (co ys j)),.k (.int .i64) ((j:Nat):Int)]) rfl ⟨HQ.out j h0,aMb⟩ rfl (aF5.out W b) (vs:=[qCv (aqR (co ys j)),.int .i64 (j:Nat)]) ⟨⟨_,rfl,rfl⟩,.mkInt _ _,trivial⟩) ?_;rintro e w' ⟨v,rfl,h1,h2⟩;rw [h2.str];exact ⟨rfl,h1⟩)
    have HTT:Hid (co ys j≠0->(tmT (aqR (co ys j)) j).size<=600000):=aad (fun h0=>aF2 (HQ.out j h0));have HLL:Hid ((txB ys (n-(j+1))).length<=60000000):=aad (by have:=HTL.out (n-(j+1));omega);have HPJ:Hid (pcB ys j=if co ys j=0 then [] else (if j+1=n then (if co ys j<0 then [45] else []) else if co ys j<0 then [32,45,32] else [32,43,32])++(tmT (aqR (co ys j)) j).data.toList):=aad (by rw [<-HNE.out];rfl);clear HTL HTB aF5 HLI HG HSL HQ uM;generalize txB ys (n-(j+1))=L0 at *
    generalize hL1:txB ys (n-j)=L1 at *
    have HL1:=aad hL1;clear hL1;generalize pcB ys j=PC at *
    generalize tmT (aqR (co ys j)) j=T at *
    rw [ev] at HSG HAB;clear ev hq5;generalize qCv (aqR (co ys j))=ax at *
    generalize hx:co ys j=x at *
    clear hx;obtain ⟨e0,e1,e2,e3,e4⟩:=HLD.out wr HE.out;by_cases vC:x=0
    ·have aBP:Hid (L1=L0):=aad (by
      have h:=HPJ.out;rw [c6 vC] at h;rw [HTX.out,h,Co])
     have hs0:x.num.sign=0:=sign_zero.2 vC;rw [hs0] at HSG;clear HTX HPJ HTM HTT hs0 vC;go_wp2_with fail
     refine (HSG.out _ HE.out).mono ?_;rintro e w2 ⟨rfl,fP⟩;have nZ:=aad (apM HB.out fP);have xe:Hid (Below w1.heap.size w1 w2):=aad (HE.out.trans (Below.mono fP HE.out.size));obtain ⟨e0,e1,e2,e3,e4⟩:=HLD.out w2 xe.out;clear fP;go_wp2
     go_roundw
     case rel=>exact ⟨j,by omega,rfl,by rw [HL1.out,aBP.out];exact nZ,xe⟩
     case measure=>simp [intOf]
    ·have aF6:=aad (HTM.out vC);have aF7:=aad (HTT.out vC);by_cases hf:j+1=n
     ·have hfi:((j:Int) == (n:Int)-1)=true:=by rw [yo];omega
      by_cases hn:x<0
      ·have aBP:Hid (L1=L0++[45]++T.data.toList):=aad (by
        have h:=HPJ.out;rw [bF vC,c6 hf,c6 hn] at h;rw [HTX.out,h,tn])
       have hs0:x.num.sign = -1:=sign_neg hn;rw [hs0] at HSG;clear HTX HPJ HTM HTT hs0 vC hn hf;go_wp2_with fail
       refine (HSG.out _ HE.out).mono ?_;rintro e w2 ⟨rfl,fP⟩;have nZ:=aad (apM HB.out fP);have xe:Hid (Below w1.heap.size w1 w2):=aad (HE.out.trans (Below.mono fP HE.out.size));obtain ⟨e0,e1,e2,e3,e4⟩:=HLD.out w2 xe.out;clear fP;go_wp2_with fail
       refine (HSG.out _ xe.out).mono ?_;rintro e w3 ⟨rfl,hx3⟩;have Ja:=aad (apM nZ.out hx3);have uU:Hid (Below w1.heap.size w1 w3):=aad (xe.out.trans (Below.mono hx3 xe.out.size));obtain ⟨e0,e1,e2,e3,e4⟩:=HLD.out w3 uU.out;clear hx3;go_wp2_with fail
       refine (HWS.out _ _ (⟨#[45]⟩:ByteArray) Ja.out (by have:=HLL.out;show L0.length+1<=_;omega) uU.out).mono ?_;rintro e w4 ⟨rfl,HB4,HE4⟩;have HB4:=aad HB4;have HE4:=aad HE4;obtain ⟨e0,e1,e2,e3,e4⟩:=HLD.out w4 HE4.out;go_wp2_with fail
       refine (HAB.out _ HE4.out).mono ?_;rintro e w4a ⟨rfl,aAy⟩;have aEK:=aad (apM HB4.out aAy);have aAz:Hid (Below w1.heap.size w1 w4a):=aad (HE4.out.trans (Below.mono aAy HE4.out.size));clear aAy;go_wp2_with fail
       refine (aF6.out _ aAz.out).mono ?_;rintro e w4b ⟨rfl,aAB⟩;have aEL:=aad (apM aEK.out aAB);have aEM:Hid (Below w1.heap.size w1 w4b):=aad (aAz.out.trans (Below.mono aAB aAz.out.size));clear aAB;go_wp2_with fail
       refine (HWS.out _ _ T aEL.out (by have:=HLL.out;have:=aF7.out;rw [dW];show L0.length+1+T.size<=_;omega) aEM.out).mono ?_;rintro e w4c ⟨rfl,aCV,aCW⟩;have aEN:Hid (Lib.IsBuilder 100 5 w1.heap.size w1.heap.size (Lib.byteCells L1) w4c):=aad (by rw [aBP.out];exact aCV);have aEO:=aad aCW;clear aCV aCW;go_wp2
       go_roundw
       case rel=>exact ⟨j,by omega,rfl,by rw [HL1.out];exact aEN,aEO⟩
       case measure=>simp [intOf]
      ·have aBP:Hid (L1=L0++T.data.toList):=aad (by
        have h:=HPJ.out;rw [bF vC,c6 hf,bF hn] at h;rw [HTX.out,h,Ar])
       have hs0:x.num.sign=1:=aD6 vC hn;rw [hs0] at HSG;clear HTX HPJ HTM HTT hs0 vC hn hf;go_wp2_with fail
       refine (HSG.out _ HE.out).mono ?_;rintro e w2 ⟨rfl,fP⟩;have nZ:=aad (apM HB.out fP);have xe:Hid (Below w1.heap.size w1 w2):=aad (HE.out.trans (Below.mono fP HE.out.size));obtain ⟨e0,e1,e2,e3,e4⟩:=HLD.out w2 xe.out;clear fP;go_wp2_with fail
       refine (HSG.out _ xe.out).mono ?_;rintro e w3 ⟨rfl,hx3⟩;have Ja:=aad (apM nZ.out hx3);have uU:Hid (Below w1.heap.size w1 w3):=aad (xe.out.trans (Below.mono hx3 xe.out.size));obtain ⟨e0,e1,e2,e3,e4⟩:=HLD.out w3 uU.out;clear hx3;go_wp2_with fail
       refine (HAB.out _ uU.out).mono ?_;rintro e w3a ⟨rfl,aIi⟩;have aMc:=aad (apM Ja.out aIi);have aIj:Hid (Below w1.heap.size w1 w3a):=aad (uU.out.trans (Below.mono aIi uU.out.size));clear aIi;go_wp2_with fail
       refine (aF6.out _ aIj.out).mono ?_;rintro e w3b ⟨rfl,aIk⟩;have aMd:=aad (apM aMc.out aIk);have aMe:Hid (Below w1.heap.size w1 w3b):=aad (aIj.out.trans (Below.mono aIk aIj.out.size));clear aIk;go_wp2_with fail
       refine (HWS.out _ _ T aMd.out (by have:=HLL.out;have:=aF7.out;omega) aMe.out).mono ?_;rintro e w3c ⟨rfl,aI0,aI1⟩;have aMf:Hid (Lib.IsBuilder 100 5 w1.heap.size w1.heap.size (Lib.byteCells L1) w3c):=aad (by rw [aBP.out];exact aI0);have aMg:=aad aI1;clear aI0 aI1;go_wp2
       go_roundw
       case rel=>exact ⟨j,by omega,rfl,by rw [HL1.out];exact aMf,aMg⟩
       case measure=>simp [intOf]
     ·have hfi:((j:Int) == (n:Int)-1)=false:=by rw [pq];omega
      by_cases hn:x<0
      ·have aBP:Hid (L1=L0++[32,45,32]++T.data.toList):=aad (by
        have h:=HPJ.out;rw [bF vC,bF hf,c6 hn] at h;rw [HTX.out,h,tn])
       have hs0:x.num.sign = -1:=sign_neg hn;rw [hs0] at HSG;clear HTX HPJ HTM HTT hs0 vC hn hf;go_wp2_with fail
       refine (HSG.out _ HE.out).mono ?_;rintro e w2 ⟨rfl,fP⟩;have nZ:=aad (apM HB.out fP);have xe:Hid (Below w1.heap.size w1 w2):=aad (HE.out.trans (Below.mono fP HE.out.size));obtain ⟨e0,e1,e2,e3,e4⟩:=HLD.out w2 xe.out;clear fP;go_wp2_with fail
       refine (HSG.out _ xe.out).mono ?_;rintro e w3 ⟨rfl,hx3⟩;have Ja:=aad (apM nZ.out hx3);have uU:Hid (Below w1.heap.size w1 w3):=aad (xe.out.trans (Below.mono hx3 xe.out.size));obtain ⟨e0,e1,e2,e3,e4⟩:=HLD.out w3 uU.out;clear hx3;go_wp2_with fail
       refine (HWS.out _ _ (⟨#[32,45,32]⟩:ByteArray) Ja.out (by have:=HLL.out;show L0.length+3<=_;omega) uU.out).mono ?_;rintro e w4 ⟨rfl,HB4,HE4⟩;have HB4:=aad HB4;have HE4:=aad HE4;obtain ⟨e0,e1,e2,e3,e4⟩:=HLD.out w4 HE4.out;go_wp2_with fail
       refine (HAB.out _ HE4.out).mono ?_;rintro e w4a ⟨rfl,aAy⟩;have aEK:=aad (apM HB4.out aAy);have aAz:Hid (Below w1.heap.size w1 w4a):=aad (HE4.out.trans (Below.mono aAy HE4.out.size));clear aAy;go_wp2_with fail
       refine (aF6.out _ aAz.out).mono ?_;rintro e w4b ⟨rfl,aAB⟩;have aEL:=aad (apM aEK.out aAB);have aEM:Hid (Below w1.heap.size w1 w4b):=aad (aAz.out.trans (Below.mono aAB aAz.out.size));clear aAB;go_wp2_with fail
       refine (HWS.out _ _ T aEL.out (by have:=HLL.out;have:=aF7.out;rw [dW];show L0.length+3+T.size<=_;omega) aEM.out).mono ?_;rintro e w4c ⟨rfl,aCV,aCW⟩;have aEN:Hid (Lib.IsBuilder 100 5 w1.heap.size w1.heap.size (Lib.byteCells L1) w4c):=aad (by rw [aBP.out];exact aCV);have aEO:=aad aCW;clear aCV aCW;go_wp2
       go_roundw
       case rel=>exact ⟨j,by omega,rfl,by rw [HL1.out];exact aEN,aEO⟩
       case measure=>simp [intOf]
      ·have aBP:Hid (L1=L0++[32,43,32]++T.data.toList):=aad (by
        have h:=HPJ.out;rw [bF vC,bF hf,bF hn] at h;rw [HTX.out,h,tn])
       have hs0:x.num.sign=1:=aD6 vC hn;rw [hs0] at HSG;clear HTX HPJ HTM HTT hs0 vC hn hf;go_wp2_with fail
       refine (HSG.out _ HE.out).mono ?_;rintro e w2 ⟨rfl,fP⟩;have nZ:=aad (apM HB.out fP);have xe:Hid (Below w1.heap.size w1 w2):=aad (HE.out.trans (Below.mono fP HE.out.size));obtain ⟨e0,e1,e2,e3,e4⟩:=HLD.out w2 xe.out;clear fP;go_wp2_with fail
       refine (HSG.out _ xe.out).mono ?_;rintro e w3 ⟨rfl,hx3⟩;have Ja:=aad (apM nZ.out hx3);have uU:Hid (Below w1.heap.size w1 w3):=aad (xe.out.trans (Below.mono hx3 xe.out.size));obtain ⟨e0,e1,e2,e3,e4⟩:=HLD.out w3 uU.out;clear hx3;go_wp2_with fail
       refine (HWS.out _ _ (⟨#[32,43,32]⟩:ByteArray) Ja.out (by have:=HLL.out;show L0.length+3<=_;omega) uU.out).mono ?_;rintro e w4 ⟨rfl,HB4,HE4⟩;have HB4:=aad HB4;have HE4:=aad HE4;obtain ⟨e0,e1,e2,e3,e4⟩:=HLD.out w4 HE4.out;go_wp2_with fail
       refine (HAB.out _ HE4.out).mono ?_;rintro e w4a ⟨rfl,aAy⟩;have aEK:=aad (apM HB4.out aAy);have aAz:Hid (Below w1.heap.size w1 w4a):=aad (HE4.out.trans (Below.mono aAy HE4.out.size));clear aAy;go_wp2_with fail
       refine (aF6.out _ aAz.out).mono ?_;rintro e w4b ⟨rfl,aAB⟩;have aEL:=aad (apM aEK.out aAB);have aEM:Hid (Below w1.heap.size w1 w4b):=aad (aAz.out.trans (Below.mono aAB aAz.out.size));clear aAB;go_wp2_with fail
       refine (HWS.out _ _ T aEL.out (by have:=HLL.out;have:=aF7.out;rw [dW];show L0.length+3+T.size<=_;omega) aEM.out).mono ?_;rintro e w4c ⟨rfl,aCV,aCW⟩;have aEN:Hid (Lib.IsBuilder 100 5 w1.heap.size w1.heap.size (Lib.byteCells L1) w4c):=aad (by rw [aBP.out];exact aCV);have aEO:=aad aCW;clear aCV aCW;go_wp2
       go_roundw
       case rel=>exact ⟨j,by omega,rfl,by rw [HL1.out];exact aEN,aEO⟩
       case measure=>simp [intOf]
def aF8:az:=⟨31,false,on1 (.list .q) (fun xs=>some (TxP xs)) fun xs=>.k .str (aEn xs)⟩
theorem aFF:ah (cfg []) aF8:=nB (enters_of Tryz.func31 (by kernel_rfl) rfl) (fun _=>rfl) fun F xs u w hg ht hu=>Calls.mono (aFC xs hg w u ht (hu.ak (.aO (Ext.refl w)) (fun _ _ _=>trivial) fun _ _=>rfl)) fun e w' ⟨h1,h2⟩=>⟨_,h1,h2,.mkStr _⟩
end Go.Proofs.YtncndgpchogadaaGreatDoor.AM
