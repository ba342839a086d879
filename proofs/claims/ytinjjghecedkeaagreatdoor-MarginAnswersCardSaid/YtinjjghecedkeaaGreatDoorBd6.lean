/- The base of the proof: contracts of functions, the engine that shows them, and mathematics. -/
import Derived.Test.YtinjjghecedkeaaGreatDoorBd5
set_option maxRecDepth 100000
set_option linter.unusedVariables false
set_option linter.unusedSimpArgs false
set_option maxHeartbeats 1000000
namespace Go.Proofs.YtinjjghecedkeaaGreatDoor
theorem r9 {ys:List Nat} {n:Nat} (hn:ys.length=n+1):aa^n*ys.getD n 0<=val aa ys:=by have h:=aD aa ys n;rw [kJ (by omega)] at h;omega
theorem xu {ys zs:List Nat} {s n:Nat} (hn:ys.length=n+1) (uR:aC aa ys) (hl:zs.length=n+2) (Zp:aC aa zs) (hv:val aa zs=val aa ys*2^s) (hs:s+bl (ys.getD n 0)=64) (ht:ys.getD n 0≠0) :
  val aa (zs.take (n+1))=val aa ys*2^s/\(zs.take (n+1)).getD n 0≠0/\val aa ys*2^s<aa^(n+1)/\0<val aa ys*2^s:=by
 have hP:0<aa^n:=pv (by unfold aa;omega)
 have h0:=aD aa ys n
 rw [kJ (by omega)] at h0
 have h1:=cl (uR.take n)
 rw [j3,qU (by omega)] at h1
 have h2:=gL (ys.getD n 0)
 have y6:=r9 hn
 generalize ys.getD n 0=t at *
 have h3:val aa ys<aa^n*2^bl t:=by have:aa^n*(t+1)<=aa^n*2^bl t:=fK _ h2;rw [tC,vu] at this;omega
 have h4:val aa ys*2^s<aa^(n+1):=by have jO:0<2^s:=pv (by omega);have:=vw h3 jO;rw [nK, <- pw,show bl t+s=64 from by omega] at this;exact this
 have h5:aa^n<=val aa ys*2^s:=by have a1:aa^n*1<=aa^n*t:=fK _ (by omega);have a2:val aa ys*1<=val aa ys*2^s:=fK _ (pv (by omega));omega
 have h6:=aD aa zs (n+1)
 rw [kJ (by omega),hv] at h6
 have h7:zs.getD (n+1) 0=0:=by
  rcases iY (zs.getD (n+1) 0) with h | h
  ·exact h
  ·have:aa^(n+1)*1<=aa^(n+1)*zs.getD (n+1) 0:=fK _ h;omega
 rw [h7,Ax,sC] at h6
 refine ⟨h6.symm,fun h8=>?_,h4,by omega⟩
 have h9:=aD aa (zs.take (n+1)) n
 rw [Ce,qU (by omega),Ce,qU (by omega),h8,Ax,sC, <- h6] at h9
 have D4:=cl (Zp.take n)
 rw [j3,qU (by omega)] at D4
 omega
theorem zM {xs ys:List Nat} {s m n:Nat} (hn:ys.length=n+1) (hx:xs.length=m+n) (yG:aC aa xs) (ht:ys.getD n 0≠0):val aa xs*2^s<val aa ys*2^s*aa^m:=by
 have h1:=cl yG;rw [hx,pw] at h1;have h2:=r9 hn;have h3:aa^n*1<=aa^n*ys.getD n 0:=fK _ (by omega);have h4:aa^m*aa^n<=val aa ys*aa^m:=by rw [gA (aa^m)];exact eB _ (by omega)
 have h5:val aa xs<val aa ys*aa^m:=by omega
 have jO:0<2^s:=pv (by omega);have h6:=vw h5 jO;rw [nK,gA (aa^m), <- nK] at h6;exact h6
theorem xw (X Y s:Nat):X*2^s/(Y*2^s)=X/Y:=Nat.mul_div_mul_right X Y (pv (by omega))
theorem BH (X Y s:Nat):X*2^s%(Y*2^s)/2^s=X%Y:=by rw [Nat.mul_mod_mul_right,Nat.mul_div_cancel _ (pv (by omega))]
theorem qe {L:List Nat} {n:Nat} (hn:n<=L.length) (h:val aa L<aa^n):val aa (L.take n)=val aa L:=by
 have h1:=dG aa L n hn;rcases iY (val aa (L.drop n)) with h2 | h2
 ·rw [h2,Ax,sC] at h1;exact h1.symm
 ·have:aa^n*1<=aa^n*val aa (L.drop n):=fK _ h2;omega
theorem bA.pos {N V m n j g:Nat} {L L' Q:List Nat} (h:bA N V m n (j+1) L Q) (hV:V<aa^n) (hm:nv L V j n g 1 L'):1<=g:=by
 have he:=hm.vl;have Bn:val aa L'<aa^(j+n+1):=gZ hm.bP (fun t ht=>by rw [hm.rest t ht];exact h.top hV ht);rcases iY g with h0 | h0
 ·subst h0;rw [x5,x5,q9,sC] at he;omega
 ·exact h0
end Go.Proofs.YtinjjghecedkeaaGreatDoor
