/- The base of the proof: contracts of functions, the engine that shows them, and mathematics. -/
import Derived.Test.YtlijkeolpmgioaaGreatDoorBd5
set_option maxRecDepth 100000
set_option linter.unusedVariables false
set_option linter.unusedSimpArgs false
set_option maxHeartbeats 4000000
namespace Go.Proofs.YtlijkeolpmgioaaGreatDoor
open Go.RowKit
theorem EY (lo y:Nat) (hy:0<y) (hl:lo<B64) (w:World) :
  Calls Tryz.prog 156 #[.int .u64 0,.int .u64 lo,.int .u64 y] w λe w'=>e = .returned (.tuple #[.int .u64 (lo/y:Nat),.int .u64 (lo%y:Nat)])/\∃n,w'=w.drewN n:=by
 have h1:((y:Int) == 0)=false:=tN.2 (by omega)
 have h2:0<y:=hy
 have h3:(1:Int)<=(y:Int):=by omega
 have h4:(lo:Int)<=18446744073709551615:=by unfold B64 at hl;omega
 go_enter Tryz.func156,Tryz.ntmps156
 go_wp2
 go_quiet (fail)
 go_wp2
 go_ret2
 refine⟨?_,nq,rfl⟩
 have e1:IntKind.u64.wrap ((lo:Int)/(y:Int))=((lo/y:Nat):Int):=by
  have h5:lo/y<=lo:=Gt _ _;have:(lo:Int)/(y:Int)=((lo/y:Nat):Int):=by push_cast;rfl
  rw[this,wrapN,qX (by omega)]
 have e2:(lo:Int)%(y:Int)=((lo%y:Nat):Int):=by push_cast;rfl
 rw[e1,e2]
 rfl
theorem EZ (hi lo y s:Nat) (hh:0<hi) (hy:hi<y) (Pc:y<B64) (hl:lo<B64) (hs:s+bl y=64) (w:World) :
  Calls Tryz.prog 156 #[.int .u64 hi,.int .u64 lo,.int .u64 y] w λe w'=>e = .returned (.tuple #[.int .u64 ((hi*B64+lo)/y:Nat),.int .u64 ((hi*B64+lo)%y:Nat)])/\w'=w:=by
 have h1:((y:Int) == 0)=false:=tN.2 (by omega)
 have h2:((hi:Int) == 0)=false:=tN.2 (by omega)
 have hlz:∀W,Calls Tryz.prog 157 #[.int .u64 y] W λe w'=>e = .returned (.int .i64 s)/\W=w':=λW=>by have h:=Tryz.bits_LeadingZeros64 (y:Int) W (by omega) (by unfold B64 at Pc;omega);rw[L7,qk Pc] at h;refine h.mono ?_;rintro e w' ⟨rfl,rfl⟩;exact⟨by congr 2;omega,rfl⟩
 have Zl:=aad hlz
 have rT:s<64:=by have:=ix (n:=y) (by omega);omega
 have hhb:hi<B64:=by omega
 have b1:(hi:Int)<=18446744073709551615:=by unfold B64 at hhb;omega
 have b2:(lo:Int)<=18446744073709551615:=by unfold B64 at hl;omega
 have b3:(y:Int)<=18446744073709551615:=by unfold B64 at Pc;omega
 obtain⟨Y,y1,y0,U,T,u1,u0,cD⟩:=abV hi lo y s hy hl hs
 obtain⟨ra,rb⟩:=IF cD (by omega)
 have RA:=aad ra
 have RB:=aad rb
 have e1:=cD.e1
 have e2:=cD.e2
 have e3:=cD.e3
 have e4:=cD.e4
 have e5:=cD.e5
 have e6:=cD.e6
 have e7:=cD.e7
 have i1:(2147483648:Int)<=(y1:Int):=by have:=cD.zA;omega
 have i2:(y1:Int)<4294967296:=by have:y1<4294967296:=cD.zB;omega
 have i3:(y0:Int)<4294967296:=by have:y0<4294967296:=cD.ui;omega
 have i4:(u1:Int)<4294967296:=by have:u1<4294967296:=cD.aaA;omega
 have i5:(u0:Int)<4294967296:=by have:u0<4294967296:=cD.aaB;omega
 have hp1:0<y1:=by omega
 have E8:Lp Y y1 y0 U u1:=⟨cD.yy,cD.zA,cD.zB,cD.ui,cD.u,cD.aaA⟩
 have Pd:=E8.lt
 have UQ:0<Y:=by have:=E8.ult;omega
 obtain⟨R1,Zm⟩:∃R1,R1=(U*bI+u1)%Y:=⟨_,rfl⟩
 have hRY:R1<Y:=by rw[Zm];exact sC _ UQ
 have UR:Lp Y y1 y0 R1 u0:=⟨cD.yy,cD.zA,cD.zB,cD.ui,hRY,cD.aaB⟩
 obtain⟨R0,Zn⟩:∃R0,R0=(R1*bI+u0)%Y:=⟨_,rfl⟩
 have hUb:(U:Int)<=18446744073709551615:=by have:=E8.ult;unfold B64 at Pd;omega
 have hRb:(R1:Int)<=18446744073709551615:=by unfold B64 at Pd;omega
 have US:(R0:Int)<=18446744073709551615:=by
  have:R0<Y:=by rw[Zn];exact sC _ UQ
  unfold B64 at Pd;omega
 have EA:∀q:Nat,q=(U*bI+u1)/Y->IntKind.u64.wrap (IntKind.u64.wrap (IntKind.u64.wrap ((U:Int)*4294967296)+(u1:Int))-IntKind.u64.wrap ((q:Int)*(Y:Int)))=(R1:Int):=λq hq=>by rw[Zm];exact wR Pd UQ hq
 have Um:∀q:Nat,q=(R1*bI+u0)/Y->IntKind.u64.wrap (IntKind.u64.wrap (IntKind.u64.wrap ((R1:Int)*4294967296)+(u0:Int))-IntKind.u64.wrap ((q:Int)*(Y:Int)))=(R0:Int):=λq hq=>by rw[Zn];exact wR Pd UQ hq
 have E9:∀Q q:Nat,Q=(U*bI+u1)/Y->q=(R1*bI+u0)/Y->(Q:Int)*4294967296+(q:Int)=(((hi*B64+lo)/y:Nat):Int)/\(R0:Int)/2^s=(((hi*B64+lo)%y:Nat):Int):=λQ q hQ hq=>by
  rw[<-RA.out,<-RB.out,<-Zm,<-Zn,<-hQ,<-hq];refine⟨?_,?_⟩
  ·rw[KY,Ar];rfl
  ·rw[Gj,LC];rfl
 have hQb:(U*bI+u1)/Y<bI:=a5v E8.ult E8.YW
 have aaK:(R1*bI+u0)/Y<bI:=a5v UR.ult UR.YW
 obtain⟨qq,rr,Pe⟩:=pk U y1 hp1
 obtain⟨qs,rs,pk2⟩:=pk R1 y1 hp1
 obtain⟨st1,st2,st3⟩:=E8.start Pe
 obtain⟨st4,st5,st6⟩:=UR.start pk2
 have hqq:qq<=4294967297:=st2
 have LP1:=aad E8
 have LP2:=aad UR
 have Fa:=aad pk2
 have ST:=aad (And.intro st4 (And.intro st5 st6))
 have SA:=aad (And.intro st1 (And.intro st2 st3))
 have Y5:=aad EA
 have Y6:=aad Um
 have aaL:=aad E9
 have HQB:=aad (And.intro hQb aaK)
 have HI:=aad (And.intro i1 (And.intro i2 (And.intro i3 (And.intro i4 (And.intro i5 (And.intro hRb US))))))
 have d1:=Pe.d1
 have d2:=Pe.d2
 have d3:=Pe.d3
 have d4:=Pe.d4
 clear hlz hs cD ra rb RA RB E8 UR Pe pk2 st1 st2 st3 st4 st5 st6 EA Um E9 Zm Zn hRY hQb aaK Pd UQ hhb i1 i2 i3 i4 i5 hRb US
 go_enter Tryz.func156,Tryz.ntmps156
 go_wp2_with (go_at_call 157;refine(Zl.out _).mono ?_;rintro e w' ⟨rfl,rfl⟩)
 go_loop [15,16] (λa b=>∃q r:Nat,a = .int .u64 q/\b = .int .u64 r/\Hid (r<4294967296/\q<=4294967297/\Dg bI y1 y0 U u1 q r)) (λa _=>(intOf a).toNat)
 case atStart=>exact⟨qq,rr,rfl,rfl,SA⟩
 case round=>
  clear hqq d1 d2 d3 d4 SA e1 e2 e3 e4 e5 e6 e7 b1 b2 b3 h1 h2 hp1 hUb
  obtain⟨q,r,rfl,rfl,hD⟩:=hrel
  obtain⟨i1,i2,i3,i4,i5,hRb,US⟩:=HI.out
  have n3:(r:Int)<4294967296:=by have:=hD.out.1;omega
  by_cases hc:q<4294967296/\q*y0<=bI*r+u1
  case' pos=>
   obtain⟨hQ,n1,n2,bn,cF⟩:=LP1.out.Ua hD.out.2.2 hc
   have hw:=Y5.out q hQ
   have HQ:=aad hQ
   have p1:=Fa.out.d1
   have p2:=Fa.out.d2
   have p3:=Fa.out.d3
   have p4:=Fa.out.d4
   have p5:(qs:Int)<=4294967297:=by have:=ST.out.2.1;omega
   clear hQ hc hD
   go_wp2_with fail
   clear n1 n2 n3 bn cF hw p1 p2 p3 p4 p5
   generalize q=Q at *
  case' neg=>
   obtain⟨uE,hN,hb⟩:=LP1.out.go hD.out.2.2 hc
   obtain⟨q,rfl⟩:∃k,q=k+1:=⟨q-1,by omega⟩
   rw[qZ] at hN
   have xo:=hD.out.2.1
   have m1:((q+1:Nat):Int)=(q:Int)+1:=by omega
   rw[m1] at hb ⊢
   have HN:=aad hN
   have lj:=aad xo
   have m2:(q:Int)+1<=4294967297:=by omega
   clear hc hD hN xo uE m1
   by_cases nY:r+y1<4294967296
   case' pos=>
    have k1:decide ((4294967296:Int)<=(r:Int)+(y1:Int))=false:=eJ (by omega)
    have uM:=aad nY
    clear nY
    rcases hb with bn | ⟨bn,n1,n2,cF⟩
    all_goals
     go_wp2_with fail
     go_round
     case rel=>exact⟨q,r+y1,by go_num,by go_num,aad ⟨uM.out,by have:=lj.out;omega,HN.out⟩⟩
     case measure=>simp[intOf]
   case' neg=>
    have k1:decide ((4294967296:Int)<=(r:Int)+(y1:Int))=true:=kx (by omega)
    have hQ:q=(U*bI+u1)/Y:=LP1.out.Ub HN.out (by have:=lj.out;omega) (by omega)
    have hw:=Y5.out q hQ
    have HQ:=aad hQ
    have p1:=Fa.out.d1
    have p2:=Fa.out.d2
    have p3:=Fa.out.d3
    have p4:=Fa.out.d4
    have p5:(qs:Int)<=4294967297:=by have:=ST.out.2.1;omega
    clear hQ nY
    rcases hb with bn | ⟨bn,n1,n2,cF⟩
    all_goals
     go_wp2_with fail
     clear n3 bn hw p1 p2 p3 p4 p5 k1 m2 HN lj
     generalize q=Q at *
  all_goals
   go_loop [16,18] (λb a=>∃q r:Nat,a = .int .u64 q/\b = .int .u64 r/\Hid (r<4294967296/\q<=4294967297/\Dg bI y1 y0 R1 u0 q r)) (λ_ a=>(intOf a).toNat)
   case atStart=>exact⟨qs,rs,rfl,rfl,ST⟩
   case round=>
    obtain⟨q,r,rfl,rfl,hD⟩:=hrel
    have n3:(r:Int)<4294967296:=by have:=hD.out.1;omega
    have hQb:(Q:Int)<4294967296:=by have h:=HQB.out.1;rw[<-HQ.out] at h;unfold bI at h;omega
    by_cases hc:q<4294967296/\q*y0<=bI*r+u0
    ·obtain⟨hq,n1,n2,bn,cF⟩:=LP2.out.Ua hD.out.2.2 hc
     have hw:=Y6.out q hq
     obtain⟨f1,f2⟩:=aaL.out Q q HQ.out hq
     have Zo:(q:Int)<4294967296:=by omega
     have F1:=aad f1
     have F2:=aad f2
     clear hq hc hD f1 f2
     go_wp2_with fail
     go_ret2
     refine⟨?_,rfl⟩
     rw[F1.out,F2.out]
     rfl
    ·obtain⟨uE,hN,hb⟩:=LP2.out.go hD.out.2.2 hc
     obtain⟨q,rfl⟩:∃k,q=k+1:=⟨q-1,by omega⟩
     rw[qZ] at hN
     have xo:=hD.out.2.1
     have m1:((q+1:Nat):Int)=(q:Int)+1:=by omega
     rw[m1] at hb ⊢
     have HN:=aad hN
     have lj:=aad xo
     have m2:(q:Int)+1<=4294967297:=by omega
     clear hc hD hN xo uE m1
     by_cases nY:r+y1<4294967296
     ·have k1:decide ((4294967296:Int)<=(r:Int)+(y1:Int))=false:=eJ (by omega)
      have uM:=aad nY
      clear nY
      rcases hb with bn | ⟨bn,n1,n2,cF⟩
      all_goals
       go_wp2_with fail
       go_round
       case rel=>exact⟨q,r+y1,by go_num,by go_num,aad ⟨uM.out,by have:=lj.out;omega,HN.out⟩⟩
       case measure=>simp[intOf]
     ·have k1:decide ((4294967296:Int)<=(r:Int)+(y1:Int))=true:=kx (by omega)
      have hq:q=(R1*bI+u0)/Y:=LP2.out.Ub HN.out (by have:=lj.out;omega) (by omega)
      have hw:=Y6.out q hq
      obtain⟨f1,f2⟩:=aaL.out Q q HQ.out hq
      have Zo:(q:Int)<4294967296:=by have h:=HQB.out.2;rw[<-hq] at h;unfold bI at h;omega
      have F1:=aad f1
      have F2:=aad f2
      clear hq nY f1 f2
      rcases hb with bn | ⟨bn,n1,n2,cF⟩
      all_goals
       go_wp2_with fail
       go_ret2
       refine⟨?_,rfl⟩
       rw[F1.out,F2.out]
       rfl
theorem xp (hi lo y:Nat) (hy:hi<y) (Pc:y<B64) (hl:lo<B64) (w:World) :
  Calls Tryz.prog 156 #[.int .u64 hi,.int .u64 lo,.int .u64 y] w λe w'=>e = .returned (.tuple #[.int .u64 ((hi*B64+lo)/y:Nat),.int .u64 ((hi*B64+lo)%y:Nat)])/\∃n,w'=w.drewN n:=by
 by_cases h0:hi=0
 ·subst h0
  have:=EY lo y hy hl w
  rw[yx,pq]
  exact this
 ·have hb:bl y<=64:=fO Pc
  exact(EZ hi lo y (64-bl y) (by omega) hy Pc hl (by omega) w).mono λ_ _ h=>⟨h.1,0,h.2⟩
def BE (g n d:Nat) (xs:List Nat) (w:World) (e:Ending) (w':World):Prop:=∃L,L.length=xs.length/\aC B64 L/\val B64 L=val B64 xs/d/\e = .returned (.tuple #[.slice (some ⟨g,0,none⟩) (apw B64 (val B64 xs/d)).length n,.int .u64 (val B64 xs%d:Nat)])/\ar w' g 49 (U L)/\bS g w w'
theorem BG (g:Nat) (xs:List Nat) (d:Nat) (w:World) (hb:ar w g 49 (U xs)) (hx:xs.length<=8589934593) (hd:aC B64 xs) (ks:0<d) (hZ:d<B64) :
  Calls Tryz.prog 142 #[.slice (some ⟨g,0,none⟩) xs.length xs.length,.int .u64 d] w (BE g xs.length d xs w):=by
 have HB:=aad hb
 clear hb
 go_enter Tryz.func142,Tryz.ntmps142
 go_wp2
 go_loopw [6,7] (λa b wr=>∃(k r:Nat) (L:List Nat),k<=xs.length/\b = .int .i64 ((k:Int)-1)/\a = .int .u64 r/\Hid (gn xs d k r L)/\Hid (ar wr g 49 (U L))/\Hid (bS g w wr)) (λ_ b _=>(intOf b+1).toNat)
 case atStart=>exact⟨xs.length,0,xs,bF _,rfl,rfl,aad (gn.start hd ks),HB,aad (bS.refl _ _)⟩
 case round=>
  obtain⟨k,r,L,hk,rfl,rfl,hL,aZ,bg⟩:=hrel
  by_cases AG:k=0
  ·subst AG
   obtain⟨f1,f2⟩:=hL.out.fin
   have uN:=hL.out.len
   have hdl:=hL.out.bP
   have ht:Calls Tryz.prog 131 #[.slice (some ⟨g,0,none⟩) xs.length xs.length] wr λe w'=>e = .returned (.slice (some ⟨g,0,none⟩) (apw B64 (val B64 xs/d)).length xs.length)/\wr=w':=by have h:=aZL g 0 xs.length L wr (by omega) (by omega) hdl (λi hi=>by rw[pq,aZ.out.cell i,bQ _ _ hi]);rw[f1,uN] at h;exact h
   have HT:=aad ht
   have F1:=aad f1
   have F2:=aad f2
   have tp:=aad uN
   clear ht f1 f2 uN
   go_wp2_with (go_at_call 131;refine(HT.out).mono ?_;rintro e w' ⟨rfl,rfl⟩)
   go_ret2
   refine⟨L,tp.out,hdl,F1.out,?_,aZ.out,bg.out⟩
   rw[<-F2.out]
   rfl
  ·obtain⟨k,rfl⟩:∃j,k=j+1:=⟨k-1,by omega⟩
   obtain⟨hq,hN⟩:=hL.out.step (by omega)
   have mj:=getD_take hL.out.low (tS k)
   have uN:=hL.out.len
   have hc:wr.cell? ⟨g,k,none⟩=some (.int .u64 (xs.getD k 0:Nat)):=by rw[aZ.out.cell k,bQ _ _ (by omega),mj]
   have hf:wr.frozen? ⟨g,k,none⟩=false:=aZ.out.frozen k
   have hrd:=hL.out.lt
   have bw:xs.getD k 0<B64:=hd.getD (by unfold B64;omega) k
   have hD:∀W,Calls Tryz.prog 156 #[.int .u64 r,.int .u64 (xs.getD k 0:Nat),.int .u64 d] W λe w'=>e = .returned (.tuple #[.int .u64 ((r*B64+xs.getD k 0)/d:Nat),.int .u64 ((r*B64+xs.getD k 0)%d:Nat)])/\∃n,w'=W.drewN n:=λW=>xp r (xs.getD k 0) d hrd hZ bw W
   have HD:=aad hD
   have HN:=aad hN
   clear mj uN hD hN hL hq
   generalize (r*B64+xs.getD k 0)/d=q at *
   generalize (r*B64+xs.getD k 0)%d=r' at *
   generalize xs.getD k 0=x at *
   rw[show((k+1:Nat):Int)-1=(k:Int) from by omega]
   go_wp2_with fail
   refine(HD.out _).mono ?_
   rintro e w2 ⟨rfl,n2,rfl⟩
   go_wp2
   go_roundw
   case rel=>
    refine⟨k,r',L.set k q,by omega,rfl,rfl,HN,?_,?_⟩
    ·rw[<-eu];exact aad (aZ.out.set k _)
    ·exact aad ((bg.out.set k _).trans (bS.aO ((Ext.refl _).drewN n2)))
   case measure=>simp[intOf]
def gQ (U u v1 v0:Nat):Nat:=min ((U*B64+u)/(v1*B64+v0)) (B64-1)
theorem Pg {B g q:Nat} (h1:g<B) (h4:g<=q) (h3:g=B-1\/q<g+1):g=min q (B-1):=by omega
theorem Jc {B q:Nat} (hB:0<B):min q (B-1)<B/\min q (B-1)<=q/\(min q (B-1)=B-1\/q<min q (B-1)+1):=by omega
theorem M5 {v1 v0:Nat} (hv:0<v1):0<v1*B64+v0:=by have:0<v1*B64:=EX hv (by unfold B64;omega);exact gA this (Jn _ _)
theorem xr {U u v1 v0 g:Nat} (hv:0<v1) (h:Good U u v1 v0 g):g=gQ U u v1 v0:=by obtain⟨h1,h2,h3⟩:=h;have hp:=M5 (v0:=v0) hv;exact Pg h1 ((uy hp).2 h2) (h3.imp id (λh3=>(j3 hp).2 h3))
theorem UT {U u v1 v0:Nat} (hv:0<v1):Good U u v1 v0 (gQ U u v1 v0):=by have hp:=M5 (v0:=v0) hv;obtain⟨h1,h2,h3⟩:=Jc (B:=B64) (q:=(U*B64+u)/(v1*B64+v0)) (by unfold B64;omega);exact⟨h1,(uy hp).1 h2,h3.imp id (λh3=>(j3 hp).1 h3)⟩
theorem xt (u2 u1 u0 v1 v0:Nat) (h2:u2<=v1) (Bl:u1<B64) (Dn:u0<B64) (fj:v1<B64) (Ds:v0<B64) (hv:0<v1) (w:World) :
  Calls Tryz.prog 159 #[.int .u64 u2,.int .u64 u1,.int .u64 u0,.int .u64 v1,.int .u64 v0] w λe w'=>e = .returned (.int .u64 (gQ (u2*B64+u1) u0 v1 v0:Nat))/\∃n,w'=w.drewN n:=by
 have HM:Hid (∀g:Nat,g<B64->∀W,Calls Tryz.prog 128 #[.int .u64 g,.int .u64 v0] W λe w'=>e = .returned (.tuple #[.int .u64 (uD g v0:Nat),.int .u64 (fD g v0:Nat)])/\W=w'):=aad (λg hg W=>ng g v0 hg Ds W)
 have HA:Hid (∀(r:Nat) W,(callFunc 140 #[.int .u64 r,.int .u64 v1,.int .u64 0]).run Tryz.prog W = .ok (.value (.tuple #[.int .u64 (fu r v1 0:Nat),.int .u64 (jz r v1 0:Nat)])) W):=aad (λr W=>og r v1 W)
 have HU0:=aad Dn
 have I0:=aad fj
 have HV0:=aad Ds
 have HV:=aad hv
 clear hv
 by_cases he:u2=v1
 case' pos=>
  have cR:Gw (u2*B64+u1) u0 v1 v0 18446744073709551615 (fu u1 v1 0) (jz u1 v1 0):=by rw[he];exact Gw.same (by have:=nf u1 v1 0;omega) (lC _ _ _) (py Bl fj (by omega))
  have qc:=HA.out u1
  generalize fu u1 v1 0=r0 at *
  generalize jz u1 v1 0=o0 at *
  have yK:=aad cR
  have HX:Hid (∃n,w=w.drewN n):=aad ⟨0,rfl⟩
  clear cR Bl Dn fj Ds h2
  have hb:((u2:Int) == (v1:Int))=true:=by rw[he];simp
  generalize u2*B64+u1=U at *
  clear he
  go_enter Tryz.func159,Tryz.ntmps159
  go_wp2
  clear qc hb
 case' neg=>
  have aU:u2<v1:=by omega
  have HD:=aad (λW=>xp u2 u1 v1 aU fj Bl W)
  have cR:Gw (u2*B64+u1) u0 v1 v0 ((u2*B64+u1)/v1) ((u2*B64+u1)%v1) 0:=Gw.less aU Bl Dn fj
  have yK:=aad cR
  have hb:((u2:Int) == (v1:Int))=false:=tN.2 (by omega)
  clear cR Bl Dn fj Ds h2 aU he
  generalize (u2*B64+u1)/v1=g0 at *
  generalize (u2*B64+u1)%v1=r0 at *
  generalize u2*B64+u1=U at *
  go_enter Tryz.func159,Tryz.ntmps159
  go_wp2_with fail
  refine(HD.out _).mono ?_
  rintro e w1 ⟨rfl,n1,EA⟩
  have HX:Hid (∃n,w1=w.drewN n):=aad ⟨n1,EA⟩
  clear EA
  go_wp2
  clear hb HD
 all_goals
  go_loop [11,12,13] (λa b c=>∃g r o:Nat,a = .int .u64 g/\b = .int .u64 r/\c = .int .u64 o/\Hid (Gw U u0 v1 v0 g r o)) (λa _ _=>(intOf a).toNat)
  case atStart=>first | exact⟨18446744073709551615,r0,o0,rfl,rfl,rfl,yK⟩ | exact⟨g0,r0,0,rfl,rfl,rfl,yK⟩
  case round=>
   obtain⟨g,r,o,rfl,rfl,rfl,hG⟩:=hrel
   have ho:=hG.out.o1
   by_cases Ph:o=1
   ·subst Ph
    have jU:=aad (hG.out.over HV0.out)
    go_wp2
    go_ret
    exact⟨by rw[<-xr (HV.out) jU.out];rfl,HX.out⟩
   ·obtain rfl:o=0:=by omega
    have hm:=HM.out g hG.out.OZ
    have ht:=Ep (g:=g) (v0:=v0) (r:=r) (u:=u0) HU0.out
    generalize uD g v0=h at *
    generalize fD g v0=l at *
    have UN:=aad hm
    clear hm ho Ph
    by_cases jU:g*v0<=r*B64+u0
    ·have Pj:=aad (hG.out.done jU)
     rcases ht.2 jU with h1 | ⟨h1,h3⟩
     ·have i1:(h:Int)<r:=by omega
      clear ht jU h1
      go_wp2_with (go_at_call 128;refine(UN.out _).mono ?_;rintro e w' ⟨rfl,rfl⟩)
      go_ret
      exact⟨by rw[<-xr (HV.out) Pj.out];rfl,HX.out⟩
     ·subst h1
      have i1:(l:Int)<=u0:=by omega
      clear ht jU h3
      go_wp2_with (go_at_call 128;refine(UN.out _).mono ?_;rintro e w' ⟨rfl,rfl⟩)
      go_ret
      exact⟨by rw[<-xr (HV.out) Pj.out];rfl,HX.out⟩
    ·have aeK:¬(h<r\/(h=r/\l<=u0)):=λx=>jU (ht.1 x)
     obtain⟨ki,hN⟩:=hG.out.next (s:=fu r v1 0) (c:=jz r v1 0) (by omega) (by have:=nf r v1 0;omega) (lC _ _ _) (py hG.out.rlt I0.out (by omega))
     have qc:=HA.out r
     have HN:=aad hN
     have AP:(1:Int)<=g:=by omega
     have Fb:(g:Int)<=18446744073709551615:=by have:=hG.out.OZ;unfold B64 at this;omega
     generalize fu r v1 0=s at *
     generalize jz r v1 0=c at *
     have acA:(r:Int)<h\/((h:Int)=r/\(u0:Int)<l):=by omega
     clear aeK ht jU ki hN
     rcases acA with i1 | ⟨i0,i1⟩
     case' inl=>
      have j1:((h:Int) == (r:Int))=false:=tN.2 (by omega)
      have j2:decide ((h:Int)<(r:Int))=false:=eJ (by omega)
     case' inr=>
      obtain rfl:h=r:=by omega
      have j2:decide ((l:Int)<=(u0:Int))=false:=eJ (by omega)
      clear i0
     all_goals
      go_wp2_with (go_at_call 128;refine(UN.out _).mono ?_;rintro e w' ⟨rfl,rfl⟩)
      go_round
      case rel=>exact⟨g-1,s,c,by congr 1;omega,rfl,rfl,HN⟩
      case measure=>simp[intOf];omega
theorem r9 {ys:List Nat} {n:Nat} (hn:ys.length=n+1):B64^n*ys.getD n 0<=val B64 ys:=by have h:=aD B64 ys n;rw[nK (by omega)] at h;omega
theorem xu {ys zs:List Nat} {s n:Nat} (hn:ys.length=n+1) (uR:aC B64 ys) (hl:zs.length=n+2) (Zp:aC B64 zs) (hv:val B64 zs=val B64 ys*2^s) (hs:s+bl (ys.getD n 0)=64) (ht:ys.getD n 0≠0) :
  val B64 (zs.take (n+1))=val B64 ys*2^s/\(zs.take (n+1)).getD n 0≠0/\val B64 ys*2^s<B64^(n+1)/\0<val B64 ys*2^s:=by
 have hP:0<B64^n:=pK (by unfold B64;omega)
 have h0:=aD B64 ys n
 rw[nK (by omega)] at h0
 have h1:=cl (uR.take n)
 rw[kI,sA (by omega)] at h1
 have h2:=gL (ys.getD n 0)
 have y6:=r9 hn
 generalize ys.getD n 0=t at *
 have h3:val B64 ys<B64^n*2^bl t:=by have:B64^n*(t+1)<=B64^n*2^bl t:=gU _ h2;rw[tU,yl] at this;omega
 have h4:val B64 ys*2^s<B64^(n+1):=by have jO:0<2^s:=pK (by omega);have:=yn h3 jO;rw[po,<-pN,show bl t+s=64 from by omega] at this;exact this
 have h5:B64^n<=val B64 ys*2^s:=by have a1:B64^n*1<=B64^n*t:=gU _ (by omega);have a2:val B64 ys*1<=val B64 ys*2^s:=gU _ (pK (by omega));omega
 have h6:=aD B64 zs (n+1)
 rw[nK (by omega),hv] at h6
 have h7:zs.getD (n+1) 0=0:=by
  rcases iS (zs.getD (n+1) 0) with h | h
  ·exact h
  ·have:B64^(n+1)*1<=B64^(n+1)*zs.getD (n+1) 0:=gU _ h;omega
 rw[h7,Gd,tR] at h6
 refine⟨h6.symm,λh8=>?_,h4,by omega⟩
 have h9:=aD B64 (zs.take (n+1)) n
 rw[Gn,sA (by omega),Gn,sA (by omega),h8,Gd,tR,<-h6] at h9
 have D4:=cl (Zp.take n)
 rw[kI,sA (by omega)] at D4
 omega
theorem zM {xs ys:List Nat} {s m n:Nat} (hn:ys.length=n+1) (hx:xs.length=m+n) (yG:aC B64 xs) (ht:ys.getD n 0≠0):val B64 xs*2^s<val B64 ys*2^s*B64^m:=by
 have h1:=cl yG;rw[hx,pN] at h1;have h2:=r9 hn;have h3:B64^n*1<=B64^n*ys.getD n 0:=gU _ (by omega);have h4:B64^m*B64^n<=val B64 ys*B64^m:=by rw[iR (B64^m)];exact fh _ (by omega)
 have h5:val B64 xs<val B64 ys*B64^m:=by omega
 have jO:0<2^s:=pK (by omega);have h6:=yn h5 jO;rw[po,iR (B64^m),<-po] at h6;exact h6
theorem xw (X Y s:Nat):X*2^s/(Y*2^s)=X/Y:=Nat.mul_div_mul_right X Y (pK (by omega))
theorem BH (X Y s:Nat):X*2^s%(Y*2^s)/2^s=X%Y:=by rw[Nat.mul_mod_mul_right,Nat.mul_div_cancel _ (pK (by omega))]
theorem qe {L:List Nat} {n:Nat} (hn:n<=L.length) (h:val B64 L<B64^n):val B64 (L.take n)=val B64 L:=by
 have h1:=dG B64 L n hn;rcases iS (val B64 (L.drop n)) with h2 | h2
 ·rw[h2,Gd,tR] at h1;exact h1.symm
 ·have:B64^n*1<=B64^n*val B64 (L.drop n):=gU _ h2;omega
theorem bA.pos {N V m n j g:Nat} {L L' Q:List Nat} (h:bA N V m n (j+1) L Q) (hV:V<B64^n) (hm:nv L V j n g 1 L'):1<=g:=by
 have he:=hm.vl;have Bn:val B64 L'<B64^(j+n+1):=gZ hm.bP (λt ht=>by rw[hm.rest t ht];exact h.top hV ht);rcases iS g with h0 | h0
 ·subst h0;rw[yx,yx,tO,tR] at he;omega
 ·exact h0
end Go.Proofs.YtlijkeolpmgioaaGreatDoor
