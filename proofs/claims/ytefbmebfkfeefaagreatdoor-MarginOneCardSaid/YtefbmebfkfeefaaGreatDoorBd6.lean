/- The base of the proof: contracts of functions, the engine that shows them, and mathematics. -/
import Derived.Test.YtefbmebfkfeefaaGreatDoorBd5
set_option maxRecDepth 100000
set_option linter.unusedVariables false
set_option linter.unusedSimpArgs false
set_option maxHeartbeats 1000000
namespace Go.Proofs.YtefbmebfkfeefaaGreatDoor
theorem r9 {ys:List Nat} {n:Nat} (hn:ys.length=n+1):B64^n*ys.getD n 0<=val B64 ys:=by have h:=aD B64 ys n;rw [nc (by omega)] at h;omega
theorem xu {ys zs:List Nat} {s n:Nat} (hn:ys.length=n+1) (uR:aC B64 ys) (hl:zs.length=n+2) (Zp:aC B64 zs) (hv:val B64 zs=val B64 ys*2^s) (hs:s+bl (ys.getD n 0)=64) (ht:ys.getD n 0≠0) :
  val B64 (zs.take (n+1))=val B64 ys*2^s/\(zs.take (n+1)).getD n 0≠0/\val B64 ys*2^s<B64^(n+1)/\0<val B64 ys*2^s:=by
 have hP:0<B64^n:=pw (by unfold B64;omega)
 have h0:=aD B64 ys n
 rw [nc (by omega)] at h0
 have h1:=azD (uR.take n)
 rw [jV,qX (by omega)] at h1
 have h2:=gL (ys.getD n 0)
 have y6:=r9 hn
 generalize ys.getD n 0=t at *
 have h3:val B64 ys<B64^n*2^bl t:=by have:B64^n*(t+1)<=B64^n*2^bl t:=gA _ h2;rw [tG,xP] at this;omega
 have h4:val B64 ys*2^s<B64^(n+1):=by have jO:0<2^s:=pw (by omega);have:=xY h3 jO;rw [nS, <- px,show bl t+s=64 from by omega] at this;exact this
 have h5:B64^n<=val B64 ys*2^s:=by have a1:B64^n*1<=B64^n*t:=gA _ (by omega);have a2:val B64 ys*1<=val B64 ys*2^s:=gA _ (pw (by omega));omega
 have h6:=aD B64 zs (n+1)
 rw [nc (by omega),hv] at h6
 have h7:zs.getD (n+1) 0=0:=by
  rcases ja (zs.getD (n+1) 0) with h | h
  ·exact h
  ·have:B64^(n+1)*1<=B64^(n+1)*zs.getD (n+1) 0:=gA _ h;omega
 rw [h7,AE,tn] at h6
 refine ⟨h6.symm,fun h8=>?_,h4,by omega⟩
 have h9:=aD B64 (zs.take (n+1)) n
 rw [Cl,qX (by omega),Cl,qX (by omega),h8,AE,tn, <- h6] at h9
 have D4:=azD (Zp.take n)
 rw [jV,qX (by omega)] at D4
 omega
theorem zM {xs ys:List Nat} {s m n:Nat} (hn:ys.length=n+1) (hx:xs.length=m+n) (yG:aC B64 xs) (ht:ys.getD n 0≠0):val B64 xs*2^s<val B64 ys*2^s*B64^m:=by
 have h1:=azD yG;rw [hx,px] at h1;have h2:=r9 hn;have h3:B64^n*1<=B64^n*ys.getD n 0:=gA _ (by omega);have h4:B64^m*B64^n<=val B64 ys*B64^m:=by rw [ia (B64^m)];exact eJ _ (by omega)
 have h5:val B64 xs<val B64 ys*B64^m:=by omega
 have jO:0<2^s:=pw (by omega);have h6:=xY h5 jO;rw [nS,ia (B64^m), <- nS] at h6;exact h6
theorem xw (X Y s:Nat):X*2^s/(Y*2^s)=X/Y:=Nat.mul_div_mul_right X Y (pw (by omega))
theorem BH (X Y s:Nat):X*2^s%(Y*2^s)/2^s=X%Y:=by rw [Nat.mul_mod_mul_right,Nat.mul_div_cancel _ (pw (by omega))]
theorem qe {L:List Nat} {n:Nat} (hn:n<=L.length) (h:val B64 L<B64^n):val B64 (L.take n)=val B64 L:=by
 have h1:=dG B64 L n hn;rcases ja (val B64 (L.drop n)) with h2 | h2
 ·rw [h2,AE,tn] at h1;exact h1.symm
 ·have:B64^n*1<=B64^n*val B64 (L.drop n):=gA _ h2;omega
theorem bA.pos {N V m n j g:Nat} {L L' Q:List Nat} (h:bA N V m n (j+1) L Q) (hV:V<B64^n) (hm:nv L V j n g 1 L'):1<=g:=by
 have he:=hm.vl;have Bn:val B64 L'<B64^(j+n+1):=gZ hm.bP (fun t ht=>by rw [hm.rest t ht];exact h.top hV ht);rcases ja g with h0 | h0
 ·subst h0;rw [ye,ye,sA,tn] at he;omega
 ·exact h0
end Go.Proofs.YtefbmebfkfeefaaGreatDoor
