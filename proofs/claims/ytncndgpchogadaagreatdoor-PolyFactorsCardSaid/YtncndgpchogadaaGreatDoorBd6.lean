/- The base of the proof: contracts of functions, the engine that shows them, and mathematics. -/
import Derived.Test.YtncndgpchogadaaGreatDoorBd5
set_option maxRecDepth 100000
set_option linter.unusedVariables false
set_option linter.unusedSimpArgs false
set_option maxHeartbeats 1000000
namespace Go.Proofs.YtncndgpchogadaaGreatDoor
theorem aMz {ys:List Nat} {n:Nat} (hn:ys.length=n+1):aa^n*ys.getD n 0<=val aa ys:=by have h:=aD aa ys n;rw [ju (by omega)] at h;omega
theorem xu {ys zs:List Nat} {s n:Nat} (hn:ys.length=n+1) (uR:aC aa ys) (hl:zs.length=n+2) (Zp:aC aa zs) (hv:val aa zs=val aa ys*2^s) (hs:s+bl (ys.getD n 0)=64) (ht:ys.getD n 0≠0) :
  val aa (zs.take (n+1))=val aa ys*2^s/\(zs.take (n+1)).getD n 0≠0/\val aa ys*2^s<aa^(n+1)/\0<val aa ys*2^s:=by
 have hP:0<aa^n:=lN (by unfold aa;omega)
 have h0:=aD aa ys n
 rw [ju (by omega)] at h0
 have h1:=cl (uR.take n)
 rw [gU,po (by omega)] at h1
 have h2:=gL (ys.getD n 0)
 have y6:=aMz hn
 generalize ys.getD n 0=t at *
 have h3:val aa ys<aa^n*2^bl t:=by have:aa^n*(t+1)<=aa^n*2^bl t:=dz _ h2;rw [q9,tQ] at this;omega
 have h4:val aa ys*2^s<aa^(n+1):=by have jO:0<2^s:=lN (by omega);have:=uY h3 jO;rw [iY, <- lM,show bl t+s=64 from by omega] at this;exact this
 have h5:aa^n<=val aa ys*2^s:=by have a1:aa^n*1<=aa^n*t:=dz _ (by omega);have a2:val aa ys*1<=val aa ys*2^s:=dz _ (lN (by omega));omega
 have h6:=aD aa zs (n+1)
 rw [ju (by omega),hv] at h6
 have h7:zs.getD (n+1) 0=0:=by
  rcases eB (zs.getD (n+1) 0) with h | h
  ·exact h
  ·have:aa^(n+1)*1<=aa^(n+1)*zs.getD (n+1) 0:=dz _ h;omega
 rw [h7,yr,sw] at h6
 refine ⟨h6.symm,fun h8=>?_,h4,by omega⟩
 have h9:=aD aa (zs.take (n+1)) n
 rw [CT,po (by omega),CT,po (by omega),h8,yr,sw, <- h6] at h9
 have D4:=cl (Zp.take n)
 rw [gU,po (by omega)] at D4
 omega
theorem zM {xs ys:List Nat} {s m n:Nat} (hn:ys.length=n+1) (hx:xs.length=m+n) (yG:aC aa xs) (ht:ys.getD n 0≠0):val aa xs*2^s<val aa ys*2^s*aa^m:=by
 have h1:=cl yG;rw [hx,lM] at h1;have h2:=aMz hn;have h3:aa^n*1<=aa^n*ys.getD n 0:=dz _ (by omega);have h4:aa^m*aa^n<=val aa ys*aa^m:=by rw [eM (aa^m)];exact cM _ (by omega)
 have h5:val aa xs<val aa ys*aa^m:=by omega
 have jO:0<2^s:=lN (by omega);have h6:=uY h5 jO;rw [iY,eM (aa^m), <- iY] at h6;exact h6
theorem xw (X Y s:Nat):X*2^s/(Y*2^s)=X/Y:=Nat.mul_div_mul_right X Y (lN (by omega))
theorem BH (X Y s:Nat):X*2^s%(Y*2^s)/2^s=X%Y:=by rw [Nat.mul_mod_mul_right,Nat.mul_div_cancel _ (lN (by omega))]
theorem qe {L:List Nat} {n:Nat} (hn:n<=L.length) (h:val aa L<aa^n):val aa (L.take n)=val aa L:=by
 have h1:=dG aa L n hn;rcases eB (val aa (L.drop n)) with h2 | h2
 ·rw [h2,yr,sw] at h1;exact h1.symm
 ·have:aa^n*1<=aa^n*val aa (L.drop n):=dz _ h2;omega
theorem bA.pos {N V m n j g:Nat} {L L' Q:List Nat} (h:bA N V m n (j+1) L Q) (hV:V<aa^n) (hm:nv L V j n g 1 L'):1<=g:=by
 have he:=hm.vl;have Bn:val aa L'<aa^(j+n+1):=gZ hm.bP (fun t ht=>by rw [hm.rest t ht];exact h.top hV ht);rcases eB g with h0 | h0
 ·subst h0;rw [tT,tT,qY,sw] at he;omega
 ·exact h0
end Go.Proofs.YtncndgpchogadaaGreatDoor
