/- The base of the proof: contracts of functions, the engine that shows them, and mathematics. -/
import Derived.Laws.CopyOwn
import Derived.Test.YtnciifikfkpanaaGreatDoorBd5
set_option maxRecDepth 100000
set_option linter.unusedVariables false
set_option linter.unusedSimpArgs false
set_option maxHeartbeats 4000000
namespace Go.Proofs.YtnciifikfkpanaaGreatDoor
open Go.RowKit
theorem Zq:(Tryz.prog.info? 23).map (·.size)=some 1:=by kernel_rfl
theorem Jd (xs:List Nat):∀u∈U xs,u.oneCell'=true:=by intro u hu;simp only[U,G3] at hu;obtain⟨b,_,rfl⟩:=hu;rfl
def Zr (q r:Nat) (w:World) (e:Ending) (w':World):Prop:=∃v1 v2,e = .returned (.tuple #[v1,v2])/\Mw q 8589934594 v1 w'/\Mw r 8589934594 v2 w'/\Ext w w'
theorem yQ (gx gy n m:Nat) (xs ys:List Nat) (w:World) (cj:ar w gx 23 (U xs)) (ke:ar w gy 23 (U ys)) (Zs:1<=n) (hn:ys.length=n+1) (hm:xs.length=m+n) (Y2:1<=m) (hx:m+n<=8589934593) (yG:aC aa xs) (uR:aC aa ys) (ht:ys.getD n 0≠0) :
  Calls Tryz.prog 152 #[.slice (some ⟨gx,0,none⟩) (m+n) (m+n),.slice (some ⟨gy,0,none⟩) (n+1) (n+1)] w (Zr (val aa xs/val aa ys) (val aa xs%val aa ys) w):=by
 have htb:ys.getD n 0<aa:=uR.getD (by unfold aa;omega) n
 have acB:bl (ys.getD n 0)<=64:=fO htb
 obtain⟨s,hs⟩:∃s,s+bl (ys.getD n 0)=64:=⟨64-bl (ys.getD n 0),by omega⟩
 have rT:s<64:=by have:=ix ht;omega
 have Zl:Hid (∀W,Calls Tryz.prog 175 #[.int .u64 (ys.getD n 0:Nat)] W λe w'=>e = .returned (.int .i64 s)/\W=w'):=aad (λW=>by have h:=Tryz.bits_LeadingZeros64 ((ys.getD n 0:Nat):Int) W (by omega) (by unfold aa at htb;omega);rw[Hf,qk htb] at h;refine h.mono ?_;rintro e w' ⟨rfl,rfl⟩;exact⟨by congr 2;omega,rfl⟩)
 have HUY:Hid (∀W,ar W gy 23 (U ys)->Calls Tryz.prog 176 #[.slice (some ⟨gy,0,none⟩) (n+1) (n+1),.int .i64 s] W (cA (λv' w'=>∃zs g,zs.length=n+2/\aC aa zs/\val aa zs=val aa ys*2^s/\W.heap.size<=g/\v' = .slice (some ⟨g,0,none⟩) (n+2) (n+2)/\ar w' g 23 (U zs)) W)):=aad (λW hb=>by
  have h:=nz (.slice (some ⟨gy,0,none⟩) (n+1) (n+1)) ys s W ⟨_,_,by rw[hn],λ_=>⟨gy,0,rfl,hb.lt,λi hi=>by rw[kJ,hb.cell i,bQ _ _ hi]⟩⟩ (by omega) (by omega) uR;refine h.mono ?_;rintro e w' ⟨v',rfl,⟨zs,h1,h2,h3,h4⟩,h5⟩;rw[hn,sD rT] at h1;rcases h4 with ⟨h6,_⟩ | ⟨g,h6,h7,h8⟩
  ·subst h6;simp at h1
  ·exact⟨v',rfl,⟨zs,g,h1,h2,h3,h6,by rw[h7,h1],h8⟩,h5⟩)
 have HUX:Hid (∀W,ar W gx 23 (U xs)->Calls Tryz.prog 176 #[.slice (some ⟨gx,0,none⟩) (m+n) (m+n),.int .i64 s] W (cA (λv' w'=>∃zs g,zs.length=m+n+1/\aC aa zs/\val aa zs=val aa xs*2^s/\W.heap.size<=g/\v' = .slice (some ⟨g,0,none⟩) (m+n+1) (m+n+1)/\ar w' g 23 (U zs)) W)):=aad (λW hb=>by
  have h:=nz (.slice (some ⟨gx,0,none⟩) (m+n) (m+n)) xs s W ⟨_,_,by rw[hm],λ_=>⟨gx,0,rfl,hb.lt,λi hi=>by rw[kJ,hb.cell i,bQ _ _ hi]⟩⟩ (by omega) (by omega) yG;refine h.mono ?_;rintro e w' ⟨v',rfl,⟨zs,h1,h2,h3,h4⟩,h5⟩;rw[hm,sD rT] at h1;rcases h4 with ⟨h6,_⟩ | ⟨g,h6,h7,h8⟩
  ·subst h6;simp at h1
  ·exact⟨v',rfl,⟨zs,g,h1,h2,h3,h6,by rw[h7,h1],h8⟩,h5⟩)
 have nF:Hid (∀zs:List Nat,zs.length=n+2->aC aa zs->val aa zs=val aa ys*2^s->val aa (zs.take (n+1))=val aa ys*2^s/\(zs.take (n+1)).getD n 0≠0/\val aa ys*2^s<aa^(n+1)/\0<val aa ys*2^s):=aad (λzs h1 h2 h3=>xu hn uR h1 h2 h3 hs ht)
 have yK:=aad (zM (s:=s) hn hm yG ht)
 have hc:w.cell? ⟨gy,n,none⟩=some (.int .u64 (ys.getD n 0:Nat)):=by rw[ke.cell n,bQ _ _ (by omega)]
 have HSD:Hid (∀UU W L Q,bA (val aa xs*2^s) (val aa ys*2^s) m (n+1) 0 L Q->val aa ys*2^s<aa^(n+1)->0<val aa ys*2^s->ar W UU 23 (U L)->Calls Tryz.prog 178 #[.slice (some ⟨UU,0,none⟩) (n+1) (m+n+1),.int .i64 s] W (cA (Mw (val aa xs*2^s%(val aa ys*2^s)/2^s) 8589934594) W)):=aad (λUU W L Q hD hV hV0 hb=>by
  have uN:=hD.mr;have hlen:(L.take (n+1)).length=n+1:=by rw[iY,pw (by omega)]
  have hv:val aa (L.take (n+1))=val aa xs*2^s%(val aa ys*2^s):=by rw[qe (by omega) (by rw[hD.fin.2];exact Gc (pv _ hV0) hV),hD.fin.2]
  have h:=xj (.slice (some ⟨UU,0,none⟩) (n+1) (m+n+1)) (L.take (n+1)) s W ⟨_,_,by rw[hlen],λ_=>⟨UU,0,rfl,hb.lt,λi hi=>by rw[hlen] at hi;rw[kJ,hb.cell i,bQ _ _ (by omega)];congr 3;rw[aP _ _ (by omega),aP _ _ (by omega),List.getElem_take]⟩⟩ (by omega) (by omega) (hD.ik.take _)
  refine h.mono ?_;rintro e w' ⟨v',rfl,⟨zs,h1,h2,h3,h4⟩,h5⟩;exact⟨v',rfl,⟨zs,_,by omega,h2,by rw[h3,hv],h4⟩,h5⟩)
 have HQ:=aad (xw (val aa xs) (val aa ys) s)
 have UW:=aad (BH (val aa xs) (val aa ys) s)
 have pS:=aad cj
 have Zj:=aad ke
 have HS:=aad rT
 rw[<-HQ.out,<-UW.out]
 clear htb acB hs cj ke yG uR ht hn hm HQ UW
 generalize ys.getD n 0=t at *
 generalize val aa xs*2^s=N at *
 generalize val aa ys*2^s=V at *
 go_enter Tryz.func152,Tryz.ntmps152
 go_wp2_with fail
 refine(Zl.out _).mono ?_
 rintro e w0 ⟨rfl,rfl⟩
 go_wp2_with fail
 refine(HUY.out _ Zj.out).mono ?_
 rintro e w1 ⟨v1,rfl,⟨zs,gv,z1,z2,z3,z4,rfl,z5⟩,bU⟩
 obtain⟨k1,k2,k3,k4⟩:=nF.out zs z1 z2 z3
 have BI:=aad z1
 have UX:=aad z2
 have Pl:=aad k1
 have Zt:=aad k2
 have HK3:=aad k3
 have HK4:=aad k4
 have HZ4:=aad z4
 have HZ5:=aad z5
 have im:=aad bU
 clear z1 z2 z3 z4 z5 k1 k2 k3 k4 bU nF Zl HUY hc Zj
 go_wp2_with (at_make;refine cb _ rfl (.tmp 36) (.tmp 36) 166 23 rfl (.int .u64 0) 8 Tryz.underlying166 j5 rfl .i64 .i64 _ _ (m+n+1) rfl rfl ?c1 ?c1' ?c2 ?c3 ?_)
 case c1=>omega
 case c1'=>omega
 case c2=>omega
 case c3=>omega
 intro w2 fP jO cF
 have mo:=aad (im.out.trans fP)
 have aaM:=aad (HZ5.out.ext fP)
 have nZ:=aad cF
 have Je:Hid (w.heap.size<=w1.heap.size):=aad im.out.size
 have Jf:Hid (gv<w1.heap.size):=aad HZ5.out.lt
 clear fP jO cF im HZ5
 generalize w1.heap.size=gu at *
 go_wp2_with fail
 refine(HUX.out _ (pS.out.ext mo.out)).mono ?_
 rintro e w3 ⟨v3,rfl,⟨us,gc,u1,u2,u3,u4,rfl,u5⟩,eR⟩
 have HU1:=aad u1
 have HU2:=aad u2
 have Zu:=aad u3
 have HU4:=aad u4
 have HU5:=aad u5
 have tq:=aad (mo.out.trans eR)
 have HZ6:=aad (aaM.out.ext eR)
 have Ja:=aad (nZ.out.ext eR)
 clear u1 u2 u3 u4 u5 eR mo aaM nZ HUX
 obtain⟨w4,ec,TU,qQ⟩:∃w4,(Builtin.copy_ #[166,166] 3 #[.slice (some ⟨gu,0,none⟩) (m+n+1) (m+n+1),.slice (some ⟨gc,0,none⟩) (m+n+1) (m+n+1)]).run Tryz.prog w3 = .ok (goInt (m+n+1)) w4/\ar w4 gu 23 (U us)/\bS gu w3 w4:=by
  have hl:(U us).length=m+n+1:=by rw[sJ,HU1.out]
  have h:=run_copy_row (P:=Tryz.prog) w3 166 166 3 23 gu 0 (m+n+1) (m+n+1) ⟨gc,0,none⟩ (m+n+1) (m+n+1) (List.replicate (m+n+1) (Value.int .u64 0)).toArray 23 (U us) Tryz.underlying166 Zq Ja.out
   (by rw[hl];exact(Nat.min_self _).symm) (λj v hv=>by rw[Addr.add_lit,kJ,HU5.out.cell j,hv]) (by rw[hl];simp) (Jd us)
  rw[hl] at h;refine⟨_,h,?_,rfl,rfl,rfl,by simp[World.setRow],λk _ ay=>setRow_other w3 gu k _ (λe=>ay (by rw[e]))⟩;unfold ar;rw[setRow_heap w3 gu _ _ 23 _ Ja.out];simp
 have xg:Hid (Ext w w4):=aad (qQ.ext tq.out Je.out)
 have HZ7:=aad (qQ.kO HZ6.out (by have:=Jf.out;omega))
 have HB4:=aad TU
 clear TU qQ tq HZ6 Ja HU4 HU5
 go_wp2_with (at_make;refine cb _ rfl (.tmp 47) (.tmp 47) 166 23 rfl (.int .u64 0) 8 Tryz.underlying166 j5 rfl .i64 .i64 _ _ m rfl rfl ?c1 ?c1' ?c2 ?c3 ?_)
 case c1=>omega
 case c1'=>omega
 case c2=>omega
 case c3=>omega
 intro w5 Zv hs5 hb5
 rw[qm] at hb5
 have HX5:=aad (xg.out.trans Zv)
 have HZ:=aad (HZ7.out.ext Zv)
 have HB:=aad (HB4.out.ext Zv)
 have HQ:=aad hb5
 have fR:Hid (gu<w4.heap.size):=aad HB4.out.lt
 have Zw:Hid (bA N V m (n+1) m us (List.replicate m 0)):=aad (by have h:=bA.start (m:=m) (n:=n+1) (V:=V) (L:=us) (by have:=HU1.out;omega) HU2.out (by rw[Zu.out];exact yK.out);rw[Zu.out] at h;exact h)
 clear Zv hs5 hb5 ec xg HZ7 HB4
 generalize w4.heap.size=gq at *
 go_wp2
 go_loopw [10] (λa wr=>∃(j:Nat) (L Q:List Nat),j<=m/\a = .int .i64 ((j:Int)-1)/\Hid (bA N V m (n+1) j L Q)/\Hid (ar wr gu 23 (U L))/\Hid (ar wr gq 23 (U Q))/\Hid (ar wr gv 23 (U zs))/\Hid (Ext w wr)) (λa _=>(intOf a+1).toNat)
 case atStart=>exact⟨m,us,_,bX _,by congr 1;omega,Zw,HB,HQ,HZ,HX5⟩
 case round=>
  obtain⟨j,L,Q,hj,rfl,hD,ma,hbq,qL,hex⟩:=hrel
  by_cases qi:j=0
  ·subst qi
   go_wp2_with fail
   refine(HSD.out gu _ L Q hD.out HK3.out HK4.out ma.out).mono ?_
   rintro e w6 ⟨v6,rfl,hv6,UY⟩
   have HV6:=aad hv6
   have Jg:=aad UY
   clear hv6 UY
   go_wp2
   go_ret2
   have hf:=hD.out
   refine⟨_,_,rfl,⟨Q,0,by rw[hf.oR];omega,hf.Er,hf.fin.1,.inr ⟨gq,ia _,by rw[hf.oR];rfl,hbq.out.ext Jg.out⟩⟩,HV6.out,hex.out.trans Jg.out⟩
  ·obtain⟨k,rfl⟩:∃k,j=k+1:=⟨j-1,by omega⟩
   rw[show((k+1:Nat):Int)-1=(k:Int) from by omega]
   have jb:k<m:=by omega
   have Zx:(zs.take (n+1)).length=n+1:=by rw[iY,BI.out,pw (by omega)]
   have UZ:aC aa (zs.take (n+1)):=UX.out.take _
   have U0:bA N (val aa (zs.take (n+1))) m (n+1) (k+1) L Q:=by rw[Pl.out];exact hD.out
   obtain⟨g1,g2⟩:=U0.IG Zx (by omega) UZ (by rw[pK];exact Zt.out)
   rw[show k+(n+1)-1=k+n from by omega,show k+(n+1)-2=k+n-1 from by omega,show k+(n+1)=k+n+1 from by omega,pK,show n+1-2=n-1 from by omega] at g2
   rw[show k+(n+1)=k+n+1 from by omega,pK] at g1
   have hvv:∀i,i<n+1->zs.getD i 0=(zs.take (n+1)).getD i 0:=λi hi=>by rw[aP _ _ (by rw[BI.out];omega),aP _ _ (by rw[Zx];exact hi),List.getElem_take]
   have pd:=hD.out.mr
   have U1:=hD.out.oR
   have fJ:0<aa:=by unfold aa;omega
   have cu:∀i,i<m+n+1->wr.cell? ⟨gu,i,none⟩=some (.int .u64 (L.getD i 0:Nat)):=λi hi=>by rw[ma.out.cell,bQ _ _ (by omega)]
   have cv:∀i,i<n+1->wr.cell? ⟨gv,i,none⟩=some (.int .u64 ((zs.take (n+1)).getD i 0:Nat)):=λi hi=>by rw[qL.out.cell,bQ _ _ (by rw[BI.out];omega),hvv i hi]
   have c2:=cu (k+n+1) (by omega)
   have c1:=cu (k+n) (by omega)
   have c0:=cu (k+n-1) (by omega)
   have d1:=cv n (by omega)
   have d0:=cv (n-1) (by omega)
   have fj:0<(zs.take (n+1)).getD n 0:=tU Zt.out
   have hgw:=λW=>xt (L.getD (k+n+1) 0) (L.getD (k+n) 0) (L.getD (k+n-1) 0) ((zs.take (n+1)).getD n 0) ((zs.take (n+1)).getD (n-1) 0) g1 (hD.out.ik.getD fJ _) (hD.out.ik.getD fJ _) (UZ.getD fJ _) (UZ.getD fJ _) fj W
   have jU:=UT (U:=L.getD (k+n+1) 0*aa+L.getD (k+n) 0) (u:=L.getD (k+n-1) 0) (v0:=(zs.take (n+1)).getD (n-1) 0) fj
   have uT:=g2 _ jU
   have lK:=jU.1
   have HVV:=aad hvv
   have Pm:=aad Zx
   have HVD:=aad UZ
   have tp:=aad pd
   have lj:=aad U1
   rw[Pl.out] at uT
   have xx:=aad uT
   have HGW:=aad hgw
   clear g1 g2 jU uT hgw U0 cu cv Zx UZ pd U1 hvv fj
   generalize gQ (L.getD (k+n+1) 0*aa+L.getD (k+n) 0) (L.getD (k+n-1) 0) ((zs.take (n+1)).getD n 0) ((zs.take (n+1)).getD (n-1) 0)=g at *
   generalize L.getD (k+n+1) 0=a2 at *
   generalize L.getD (k+n) 0=a1 at *
   generalize L.getD (k+n-1) 0=a0 at *
   generalize (zs.take (n+1)).getD n 0=b1 at *
   generalize (zs.take (n+1)).getD (n-1) 0=b0 at *
   have pc:=aad lK
   clear lK
   have q1:IntKind.i64.wrap ((k:Int)+((n:Int)+1))=(k:Int)+((n:Int)+1):=IntWalk.i64_in _ (by omega)
   have q2:IntKind.i64.wrap ((k:Int)+((n:Int)+1)-1)=(k:Int)+((n:Int)+1)-1:=IntWalk.i64_in _ (by omega)
   have q3:IntKind.i64.wrap ((k:Int)+((n:Int)+1)-2)=(k:Int)+((n:Int)+1)-2:=IntWalk.i64_in _ (by omega)
   have q4:IntKind.i64.wrap ((n:Int)+1-2)=(n:Int)+1-2:=IntWalk.i64_in _ (by omega)
   have r1:((k:Int)+((n:Int)+1)).toNat=k+n+1:=by omega
   have r2:((k:Int)+((n:Int)+1)-1).toNat=k+n:=by omega
   have r3:((k:Int)+((n:Int)+1)-2).toNat=k+n-1:=by omega
   have r4:((n:Int)+1-2).toNat=n-1:=by omega
   go_wp2
   go_quiet ((go_at_call 177;exact Calls.quiet_of (HGW.out _)))
   rename_i nq
   have HD:=hD
   have aaN:=aad (ma.out.ext ((Ext.refl wr).drewN nq))
   have aaO:=aad (hbq.out.ext ((Ext.refl wr).drewN nq))
   have aaP:=aad (qL.out.ext ((Ext.refl wr).drewN nq))
   have EP:=aad (hex.out.drewN nq)
   clear ma hbq qL hex c2 c1 c0 d1 d0 q1 q2 q3 q4 r1 r2 r3 r4 HGW hD
   generalize wr.drewN nq=W6 at *
   go_wp2
   go_loopw [12,13,89] (λc b i wr=>∃(i' cc bb:Nat) (L':List Nat),i'<=n+1/\i = .int .i64 i'/\c = .int .u64 cc/\b = .int .u64 bb/\cc<aa/\bb<=1/\Hid (cS L (zs.take (n+1)) k g i' cc bb L')/\Hid (ar wr gu 23 (U L'))/\Hid (ar wr gq 23 (U Q))/\Hid (ar wr gv 23 (U zs))/\Hid (Ext w wr)) (λ_ _ i _=>n+1-(intOf i).toNat)
   case atStart=>exact⟨0,0,0,L,ia _,rfl,rfl,rfl,by unfold aa;omega,by omega,aad (cS.start k g HD.out.ik),aaN,aaO,aaP,EP⟩
   case round=>
    clear aaN aaO aaP EP
    obtain⟨i,c,b,L',hi,rfl,rfl,rfl,hc,hb,hM,ma,hbq,qL,hex⟩:=hrel
    have xy:=hM.out.len
    have pd:=tp.out
    by_cases hin:i<n+1
    ·have cx:wr.cell? ⟨gu,k+i,none⟩=some (.int .u64 (L'.getD (k+i) 0:Nat)):=by rw[ma.out.cell,bQ _ _ (by omega)]
     have fx:wr.frozen? ⟨gu,k+i,none⟩=false:=ma.out.frozen _
     have cy:wr.cell? ⟨gv,i,none⟩=some (.int .u64 ((zs.take (n+1)).getD i 0:Nat)):=by rw[qL.out.cell,bQ _ _ (by rw[BI.out];omega),HVV.out i hin]
     have bw:L'.getD (k+i) 0<aa:=hM.out.bP.getD fJ _
     have de:(zs.take (n+1)).getD i 0<aa:=HVD.out.getD fJ _
     have cR:=λ(hi lo s c1 u' b':Nat) (hu:u'<aa) (e1:lo+aa*hi=g*(zs.take (n+1)).getD i 0) (e2:s+aa*c1=lo+c) (e3:L'.getD (k+i) 0+aa*b'=s+b+u')=>hM.out.step (by omega) hu e1 e2 e3
     generalize L'.getD (k+i) 0=x at *
     generalize (zs.take (n+1)).getD i 0=y at *
     have e1:=AN g y
     have e2:=nf (fD g y) c 0
     have jY:fu (fD g y) c 0+aa*(uD g y+jz (fD g y) c 0)=g*y+0+c:=by rw[sA];omega
     have hq:=vj pc.out de fJ hc jY
     have e3:=sN (x:=x) (y:=fu (fD g y) c 0) (b:=b) bw (lC _ _ _) hb
     have hN:=cR _ _ _ _ _ _ (pz _ _ _) e1 (by omega) e3
     have ha:∀W,(callFunc 148 #[.int .u64 (fD g y:Nat),.int .u64 c,.int .u64 0]).run Tryz.prog W = .ok (.value (.tuple #[.int .u64 (fu (fD g y) c 0:Nat),.int .u64 (jz (fD g y) c 0:Nat)])) W:=λW=>og _ _ W
     have hs:∀W,(callFunc 149 #[.int .u64 x,.int .u64 (fu (fD g y) c 0:Nat),.int .u64 b]).run Tryz.prog W = .ok (.value (.tuple #[.int .u64 (pQ x (fu (fD g y) c 0) b:Nat),.int .u64 (oe x (fu (fD g y) c 0) b:Nat)])) W:=λW=>sM _ _ _ hb W
     have cX:=pA x (fu (fD g y) c 0) b
     have HM:=aad (λW=>ng g y pc.out de W)
     have HN:=aad hN
     clear e1 e2 e3 jY cR hN hM xy pd hc hb
     generalize oe x (fu (fD g y) c 0) b=b2 at *
     generalize pQ x (fu (fD g y) c 0) b=u2 at *
     generalize jz (fD g y) c 0=c1 at *
     generalize fu (fD g y) c 0=s1 at *
     generalize uD g y=hh at *
     generalize fD g y=ll at *
     have bq:(hh:Int)+(c1:Int)<=18446744073709551615:=by unfold aa at hq;omega
     go_wp2_with fail
     refine(HM.out _).mono ?_
     rintro e w' ⟨rfl,rfl⟩
     go_wp2
     go_roundw
     case rel=>refine⟨i+1,hh+c1,b2,L'.set (k+i) u2,by omega,by go_num,by go_num,rfl,hq,cX,HN,aad (by rw[<-avy];exact ma.out.set _ _),aad (hbq.out.cN (by have:=fR.out;simp;omega) _),aad (qL.out.cN (by have:=Jf.out;simp;omega) _),aad (Below.setCell hex.out (p:=⟨gu,k+i,none⟩) Je.out _)⟩
     case measure=>simp[intOf];omega
    ·obtain rfl:i=n+1:=by omega
     have cx:wr.cell? ⟨gu,k+(n+1),none⟩=some (.int .u64 (L'.getD (k+(n+1)) 0:Nat)):=by rw[ma.out.cell,bQ _ _ (by omega)]
     have fx:wr.frozen? ⟨gu,k+(n+1),none⟩=false:=ma.out.frozen _
     have bw:L'.getD (k+(n+1)) 0<aa:=hM.out.bP.getD fJ _
     have xz:cS L (zs.take (n+1)) k g (zs.take (n+1)).length c b L':=by rw[Pm.out];exact hM.out
     have cR:=λ(u' b':Nat) (hu:u'<aa) (e:L'.getD (k+(zs.take (n+1)).length) 0+aa*b'=c+b+u')=>xz.close (by rw[Pm.out];omega) hu e
     rw[Pm.out,Pl.out] at cR
     generalize L'.getD (k+(n+1)) 0=x at *
     have e3:=sN (x:=x) (y:=c) (b:=b) bw hc hb
     have hN:=cR _ _ (pz _ _ _) e3
     have hs:∀W,(callFunc 149 #[.int .u64 x,.int .u64 c,.int .u64 b]).run Tryz.prog W = .ok (.value (.tuple #[.int .u64 (pQ x c b:Nat),.int .u64 (oe x c b:Nat)])) W:=λW=>sM _ _ _ hb W
     have cX:=pA x c b
     have HN:=aad hN
     clear e3 cR hN hM xz xy pd hc hb
     generalize oe x c b=b2 at *
     generalize pQ x c b=u2 at *
     have hBU:Hid (ar (wr.setCell ⟨gu,k+(n+1),none⟩ (.int .u64 u2)) gu 23 (U (L'.set (k+(n+1)) u2))):=aad (by rw[<-avy];exact ma.out.set _ _)
     have gr:Hid (ar (wr.setCell ⟨gu,k+(n+1),none⟩ (.int .u64 u2)) gq 23 (U Q)):=aad (hbq.out.cN (by have:=fR.out;simp;omega) _)
     have hBV:Hid (ar (wr.setCell ⟨gu,k+(n+1),none⟩ (.int .u64 u2)) gv 23 (U zs)):=aad (qL.out.cN (by have:=Jf.out;simp;omega) _)
     have mb:Hid (Ext w (wr.setCell ⟨gu,k+(n+1),none⟩ (.int .u64 u2))):=aad (Below.setCell hex.out (p:=⟨gu,k+(n+1),none⟩) Je.out _)
     generalize L'.set (k+(n+1)) u2=L2 at *
     by_cases cF:b2=0
     ·subst cF
      obtain⟨_,jm⟩:=HD.out.wS jb HK4.out xx.out HN.out
      have mc:=aad jm
      have cq:(wr.setCell ⟨gu,k+(n+1),none⟩ (.int .u64 u2)).cell? ⟨gq,k,none⟩=some (.int .u64 (Q.getD k 0:Nat)):=by rw[gr.out.cell,bQ _ _ (by rw[lj.out];exact jb)]
      have fq:(wr.setCell ⟨gu,k+(n+1),none⟩ (.int .u64 u2)).frozen? ⟨gq,k,none⟩=false:=gr.out.frozen _
      clear jm cX
      generalize Q.getD k 0=qo at *
      go_wp2
      go_roundw
      case rel=>exact⟨k,L2,Q.set k g,by omega,rfl,mc,aad (hBU.out.cN (by have:=fR.out;simp;omega) _),aad (by rw[<-avy];exact gr.out.set _ _),aad (hBV.out.cN (by have:=fR.out;have:=Jf.out;simp;omega) _),aad (Below.setCell mb.out (p:=⟨gq,k,none⟩) (by have:=Je.out;have:=fR.out;show w.heap.size<=gq;omega) _)⟩
      case measure=>simp[intOf]
     ·obtain rfl:b2=1:=by omega
      have ki:1<=g:=HD.out.pos HK3.out HN.out
      obtain⟨g',rfl⟩:∃g',g=g'+1:=⟨g-1,by omega⟩
      have Fb:(g':Int)+1<=18446744073709551615:=by have:=pc.out;unfold aa at this;omega
      have n5:=HN.out.len
      rw[tp.out] at n5
      have mO:=aad n5
      clear cX ki n5 cF ma hbq qL hex
      go_wp2
      clear cx fx hs bw Fb
      generalize wr.setCell ⟨gu,k+(n+1),none⟩ (.int .u64 u2)=W7 at *
      go_loopw [19,150] (λc i wr=>∃(i' cc:Nat) (L3:List Nat),i'<=n+1/\i = .int .i64 i'/\c = .int .u64 cc/\cc<=1/\Hid (dt L2 (zs.take (n+1)) k i' cc L3)/\Hid (ar wr gu 23 (U L3))/\Hid (ar wr gq 23 (U Q))/\Hid (ar wr gv 23 (U zs))/\Hid (Ext w wr)) (λ_ i _=>n+1-(intOf i).toNat)
      case atStart=>exact⟨0,0,L2,ia _,rfl,rfl,by omega,aad (dt.start k HN.out.bP),hBU,gr,hBV,mb⟩
      case round=>
       clear hBU gr hBV mb
       obtain⟨i,c,L3,hi,rfl,rfl,hc,hA,ma,hbq,qL,hex⟩:=hrel
       have qR:=hA.out.len
       rw[mO.out] at qR
       by_cases hin:i<n+1
       ·have cx:∀W,Ext wr W->W.cell? ⟨gu,k+i,none⟩=some (.int .u64 (L3.getD (k+i) 0:Nat)):=λW h=>by rw[(ma.out.ext h).cell,bQ _ _ (by omega)]
        have fx:∀W,Ext wr W->W.frozen? ⟨gu,k+i,none⟩=false:=λW h=>(ma.out.ext h).frozen _
        have cy:∀W,Ext wr W->W.cell? ⟨gv,i,none⟩=some (.int .u64 ((zs.take (n+1)).getD i 0:Nat)):=λW h=>by rw[(qL.out.ext h).cell,bQ _ _ (by rw[BI.out];omega),HVV.out i hin]
        have bw:L3.getD (k+i) 0<aa:=hA.out.bP.getD fJ _
        have de:(zs.take (n+1)).getD i 0<aa:=HVD.out.getD fJ _
        have cR:=λ(u' c':Nat) (hu:u'<aa) (e:u'+aa*c'=L3.getD (k+i) 0+(zs.take (n+1)).getD i 0+c)=>hA.out.step (by rw[mO.out];omega) hu e
        generalize L3.getD (k+i) 0=x at *
        generalize (zs.take (n+1)).getD i 0=y at *
        have hN:=cR _ _ (lC x y c) (nf x y c)
        have ha:∀W,(callFunc 148 #[.int .u64 x,.int .u64 y,.int .u64 c]).run Tryz.prog W = .ok (.value (.tuple #[.int .u64 (fu x y c:Nat),.int .u64 (jz x y c:Nat)])) W:=λW=>AL _ _ _ hc W
        have cG:=py bw de hc
        have BA:=aad hN
        have HA:=aad ha
        have Zf:=aad cx
        have HFX:=aad fx
        have uS:=aad cy
        clear cR hN hA qR hc ha cx fx cy bw de
        generalize jz x y c=c2 at *
        generalize fu x y c=s2 at *
        go_wp2
        refine iu vz 20 [λv _=>v = .slice (some ⟨gu,0,none⟩) (m+n+1) (m+n+1),λv _=>v = .int .i64 k,λv _=>v = .int .i64 i,λv _=>v = .int .i64 ((k:Int)+(i:Int)),λv _=>v = .slice (some ⟨gu,0,none⟩) (m+n+1) (m+n+1),λv _=>v = .int .i64 k,λv _=>v = .int .i64 i,λv _=>v = .int .i64 ((k:Int)+(i:Int)),λv _=>v = .pointer (some ⟨gu,k+i,none⟩),λv _=>v = .int .u64 x,λv _=>v = .slice (some ⟨gv,0,none⟩) (n+1) (n+2),λv _=>v = .int .i64 i,λv _=>v = .pointer (some ⟨gv,i,none⟩),λv _=>v = .int .u64 y,λv _=>v = .int .u64 c,λv _=>v = .tuple #[.int .u64 s2,.int .u64 c2],λv _=>v = .tuple #[.int .u64 s2,.int .u64 c2],λv _=>v = .int .u64 s2,λv _=>v = .int .u64 c2,λv _=>v = .pointer (some ⟨gu,k+i,none⟩)] (by kernel_rfl) (by kernel_rfl) ?hG ?hQ ⟨λh=>(by cases h),λ_=>?o0,λh=>(by cases h),λ_=>?o1,λh=>(by cases h),λ_=>?o2,λh=>(by cases h),λ_=>?o3,λh=>(by cases h),λ_=>?o4,λh=>(by cases h),λ_=>?o5,λh=>(by cases h),λ_=>?o6,λh=>(by cases h),λ_=>?o7,λh=>(by cases h),λ_=>?o8,λh=>(by cases h),λ_=>?o9,λh=>(by cases h),λ_=>?o10,λh=>(by cases h),λ_=>?o11,λh=>(by cases h),λ_=>?o12,λh=>(by cases h),λ_=>?o13,λh=>(by cases h),λ_=>?o14,λh=>(by cases h),λ_=>?o15,λh=>(by cases h),λ_=>?o16,λ_=>?o17,λh=>(by cases h),λ_=>?o18,λh=>(by cases h),λh=>(by cases h),λ_=>?o19,trivial⟩ ?fin
        case hG=>
         intro g hg
         simp only[tQ,wc,or_false] at hg
         rcases hg with rfl | rfl | rfl | rfl | rfl | rfl | rfl | rfl | rfl | rfl | rfl | rfl | rfl | rfl | rfl | rfl | rfl | rfl | rfl | rfl
         all_goals first | exact λ_ _ _ _ h=>h | exact λ_ _ _ e h=>h.ext e
        case hQ=>exact λc a w d v h=>by cases d<;>exact h
        case o0=>
         intro v w' hw hj
         simp[aqo]
         go_wp2
         exact⟨rfl,rfl,Ext.refl _,λd hd=>by cases hd;rfl⟩
        case o1 | o2 | o4 | o5 | o6 | o10 | o11 | o14=>
         intro v w' hw hj
         simp[aqo,Act.put]
         go_wp2
         exact⟨rfl,rfl,Ext.refl _,λd hd=>by cases hd;rfl⟩
        case o3=>
         intro v w' hw hj
         have e1:v 1 = .int .i64 k:=hj 1 (by kernel_rfl)
         have e2:v 2 = .int .i64 i:=hj 2 (by kernel_rfl)
         simp[aqo,Act.put,e1,e2]
         go_wp2
         exact⟨rfl,rfl,Ext.refl _,λd hd=>by cases hd;rfl⟩
        case o7=>
         intro v w' hw hj
         have e5:v 5 = .int .i64 k:=hj 5 (by kernel_rfl)
         have e6:v 6 = .int .i64 i:=hj 6 (by kernel_rfl)
         simp[aqo,Act.put,e5,e6]
         go_wp2
         exact⟨rfl,rfl,Ext.refl _,λd hd=>by cases hd;rfl⟩
        case o8=>
         intro v w' hw hj
         have e4:v 4 = .slice (some ⟨gu,0,none⟩) (m+n+1) (m+n+1):=hj 4 (by kernel_rfl)
         have e7:v 7 = .int .i64 ((k:Int)+(i:Int)):=hj 7 (by kernel_rfl)
         simp[aqo,Act.put,e4,e7]
         go_wp2
         exact⟨rfl,rfl,Ext.refl _,λd hd=>by cases hd;rfl⟩
        case o9=>
         intro v w' hw hj
         have e8:v 8 = .pointer (some ⟨gu,k+i,none⟩):=hj 8 (by kernel_rfl)
         have ez:=Zf.out w' hw
         simp[aqo,Act.put,e8]
         go_wp2
         exact⟨rfl,rfl,Ext.refl _,λd hd=>by cases hd;rfl⟩
        case o12=>
         intro v w' hw hj
         have e10:v 10 = .slice (some ⟨gv,0,none⟩) (n+1) (n+2):=hj 10 (by kernel_rfl)
         have e11:v 11 = .int .i64 i:=hj 11 (by kernel_rfl)
         simp[aqo,Act.put,e10,e11]
         go_wp2
         exact⟨rfl,rfl,Ext.refl _,λd hd=>by cases hd;rfl⟩
        case o13=>
         intro v w' hw hj
         have e12:v 12 = .pointer (some ⟨gv,i,none⟩):=hj 12 (by kernel_rfl)
         have mP:=uS.out w' hw
         simp[aqo,Act.put,e12]
         go_wp2
         exact⟨rfl,rfl,Ext.refl _,λd hd=>by cases hd;rfl⟩
        case o15=>
         intro v w' hw hj
         have e9:v 9 = .int .u64 x:=hj 9 (by kernel_rfl)
         have e13:v 13 = .int .u64 y:=hj 13 (by kernel_rfl)
         have e14:v 14 = .int .u64 c:=hj 14 (by kernel_rfl)
         have ha:=HA.out
         simp[aqo,Act.put,e9,e13,e14]
         go_wp2
         exact⟨rfl,rfl,Ext.refl _,λd hd=>by cases hd;rfl⟩
        case o16=>
         intro v w' hw hj
         have e15:v 15 = .tuple #[.int .u64 s2,.int .u64 c2]:=hj 15 (by kernel_rfl)
         simp[aqo,Act.put,e15]
         go_wp2
         exact⟨rfl,rfl,Ext.refl _,λd hd=>by cases hd;rfl⟩
        case o17=>exact⟨rfl,153,0,16,rfl,(by kernel_rfl),(by kernel_rfl),λu w h=>⟨_,h,_,rfl,λ_ _=>rfl⟩⟩
        case o18=>exact⟨rfl,153,1,16,rfl,(by kernel_rfl),(by kernel_rfl),λu w h=>⟨_,h,_,rfl,λ_ _=>rfl⟩⟩
        case o19=>
         intro v w' hw hj
         have e0:v 0 = .slice (some ⟨gu,0,none⟩) (m+n+1) (m+n+1):=hj 0 (by kernel_rfl)
         have e3:v 3 = .int .i64 ((k:Int)+(i:Int)):=hj 3 (by kernel_rfl)
         simp[aqo,Act.put,e0,e3]
         go_wp2
         exact⟨rfl,rfl,Ext.refl _,λd hd=>by cases hd;rfl⟩
        case fin=>
         intro v w' hw hj
         have e19:v 19 = .pointer (some ⟨gu,k+i,none⟩):=hj 19 172 (by omega) rfl
         have e17:v 17 = .int .u64 s2:=hj 17 170 (by omega) rfl
         have e18:v 18 = .int .u64 c2:=hj 18 171 (by omega) rfl
         simp[aqo,Act.put,e19,e17,e18]
         have ez:=Zf.out w' hw
         have TX:=HFX.out w' hw
         go_wp2
         go_roundw
         case rel=>
          refine⟨_,_,_,⟨i+1,by omega,?_,c2,?_,cG,L3.set (k+i) s2,BA,aad (by rw[<-avy];exact(ma.out.ext hw).set _ _),aad ((hbq.out.ext hw).cN (by have:=fR.out;simp;omega) _),aad ((qL.out.ext hw).cN (by have:=Jf.out;simp;omega) _),aad (Below.setCell (hex.out.trans hw) (p:=⟨gu,k+i,none⟩) Je.out _)⟩,rfl,rfl,rfl⟩
          ·go_num
          ·rfl
         case measure=>simp[intOf];omega
       ·obtain rfl:i=n+1:=by omega
        have cx:wr.cell? ⟨gu,k+(n+1),none⟩=some (.int .u64 (L3.getD (k+(n+1)) 0:Nat)):=by rw[ma.out.cell,bQ _ _ (by omega)]
        have fx:wr.frozen? ⟨gu,k+(n+1),none⟩=false:=ma.out.frozen _
        have xA:dt L2 (zs.take (n+1)) k (zs.take (n+1)).length c L3:=by rw[Pm.out];exact hA.out
        obtain⟨d,t1,t2,t3,t4⟩:=xA.close (by rw[Pm.out,mO.out];omega)
        rw[Pm.out] at t1 t2 t3 t4
        rw[Pl.out] at t3
        obtain⟨_,_,jm⟩:=HD.out.wU jb HK4.out HK3.out xx.out HN.out t1 t2 t3 t4
        rw[pK] at jm
        have mc:=aad jm
        generalize L3.getD (k+(n+1)) 0=x at *
        have EO:IntKind.u64.wrap ((x:Int)+(c:Int))=((x+c)%aa:Nat):=wrapN (x+c)
        have UG:=aad EO
        clear t1 t2 t3 t4 jm hA xA qR hc EO
        have cq:∀u,(wr.setCell ⟨gu,k+(n+1),none⟩ u).cell? ⟨gq,k,none⟩=some (.int .u64 (Q.getD k 0:Nat)):=λu=>by rw[(hbq.out.cN (by have:=fR.out;simp;omega) u).cell,bQ _ _ (by rw[lj.out];exact jb)]
        have fq:∀u,(wr.setCell ⟨gu,k+(n+1),none⟩ u).frozen? ⟨gq,k,none⟩=false:=λu=>(hbq.out.cN (by have:=fR.out;simp;omega) u).frozen _
        generalize Q.getD k 0=qo at *
        go_wp2
        rw[UG.out]
        have bn:=ma.out.set (k+(n+1)) (.int .u64 ((x+c)%aa:Nat))
        rw[avy] at bn
        have uE:=hbq.out.cN (p:=⟨gu,k+(n+1),none⟩) (by have:=fR.out;simp;omega) (.int .u64 ((x+c)%aa:Nat))
        have fj:=qL.out.cN (p:=⟨gu,k+(n+1),none⟩) (by have:=Jf.out;simp;omega) (.int .u64 ((x+c)%aa:Nat))
        refine⟨⟨k,_,Q.set k g',by omega,rfl,mc,aad (bn.cN (by have:=fR.out;simp;omega) _),aad (by rw[<-avy];exact uE.set _ _),aad (fj.cN (by have:=fR.out;have:=Jf.out;simp;omega) _),aad (Below.setCell (Below.setCell hex.out (p:=⟨gu,k+(n+1),none⟩) Je.out _) (p:=⟨gq,k,none⟩) (by have:=Je.out;have:=fR.out;show w.heap.size<=gq;omega) _)⟩,by simp[intOf]⟩
end Go.Proofs.YtnciifikfkpanaaGreatDoor
