/- The base of the proof: contracts of functions, the engine that shows them, and mathematics. -/
import Derived.Deep.LoopGhost
import Derived.Test.YtnciifikfkpanaaGreatDoorBd6
set_option maxRecDepth 100000
set_option linter.unusedVariables false
set_option linter.unusedSimpArgs false
set_option maxHeartbeats 4000000
namespace Go.Proofs.YtnciifikfkpanaaGreatDoor
open Go.RowKit
theorem ar.two {w:World} {g:Nat} {t:TypeId} {x y:Value} (h:ar w g t [x,y]) :
  w.cell? ⟨g,0,none⟩=some x/\w.cell? ⟨g,1,none⟩=some y/\w.frozen? ⟨g,0,none⟩=false/\w.frozen? ⟨g,1,none⟩=false:=⟨h.cell 0,h.cell 1,h.frozen 0,h.frozen 1⟩
theorem Pn (a b:Nat) (hb:bl b<=549755813888) (aU:a<b) (cT:aa<=b) (w:World) :
  Calls Tryz.prog 109 #[.agg #[.int .u64 (lo (a):Nat),.string (hi (a))],.agg #[.int .u64 (lo (b):Nat),.string (hi (b))]] w (cg (.tuple #[.agg #[.int .u64 (lo (0):Nat),.string (hi (0))],.agg #[.int .u64 (lo (a):Nat),.string (hi (a))],.bool true]) w):=by
 have ko:bl a<=bl b:=eZ (Ab aU)
 have HB:=aad (λW=>kB b (by omega) W)
 have HC:Hid (∀W,Calls Tryz.prog 108 #[.agg #[.int .u64 (lo (a):Nat),.string (hi (a))],.agg #[.int .u64 (lo (b):Nat),.string (hi (b))]] W (cg (.int .i64 (-1)) W)):=aad (λW=>by have h:=lf a b (by omega) hb W;rw[di aU] at h;exact h)
 have O9:(((bl b:Nat):Int) == 0)=false:=pN.2 (by have:=ix (n:=b) (by omega);omega)
 have IS:=iz cT
 have qM:(hi a).toList.isEmpty=false\/(hi a).toList.isEmpty=true:=by cases (hi a).toList.isEmpty<;>simp
 have z1:lo 0=0:=rfl
 have z2:hi 0=⟨#[]⟩:=bK (by unfold aa;omega)
 rw[z1,z2]
 clear hb aU cT ko z1 z2
 generalize bl b=l at *
 generalize lo a=la at *
 generalize hi a=sa at *
 generalize lo b=lb at *
 generalize hi b=sb at *
 rcases qM with qM | qM
 all_goals
  go_enter Tryz.func109,Tryz.ntmps109
  go_wp2_with fail
  generalize hW:(((w.alloc (.cells #[.int .u64 la,.string sa] 36)).alloc (.cells #[.int .u64 lb,.string sb] 36)).alloc (.cells #[.int .u64 0,.string ⟨#[]⟩] 36)).alloc (.cells #[.int .u64 0,.string ⟨#[]⟩] 36)=W
  obtain⟨hp,hq,hr,hs,hx⟩:=r8 w W _ _ _ _ hW
  clear hW
  refine(HB.out _).mono ?_
  rintro e w3 ⟨rfl,dM⟩
  obtain⟨p0,p1,_,_⟩:=(hp.ext dM).two
  obtain⟨q0,q1,_,_⟩:=(hq.ext dM).two
  have uU:=aad dM
  have HP:=aad hp
  have HQ:=aad hq
  have HR:=aad hr
  have HS:=aad hs
  have HX:=aad hx
  clear hp hq hr hs hx dM
  go_wp2_with fail
  refine(HC.out _).mono ?_
  rintro e w4 ⟨rfl,Fc⟩
  have gN:=uU.out.trans Fc
  clear p0 p1 q0 q1
  obtain⟨p0,p1,_,_⟩:=(HP.out.ext gN).two
  obtain⟨r0,r1,f0,f1⟩:=(HR.out.ext gN).two
  obtain⟨s0,s1,g0,g1⟩:=(HS.out.ext gN).two
  have Bq:=aad (HR.out.ext gN)
  have Jh:=aad (HS.out.ext gN)
  have xg:=aad (HX.out.trans gN)
  clear gN Fc HR HS HX uU HP HQ
  go_wp2_with fail
  go_region
  go_wp2
  refine mT (w.heap.size+1+1) (w.heap.size+1+1+1) _ _ _ _ _ rfl rfl rfl rfl ((((Bq.out.set 0 _).set 1 _).cN (by simp) _).cN (by simp) _).drew ((((Jh.out.cN (by simp) _).cN (by simp) _).set 0 _).set 1 _).drew rfl ⟨rfl,?_⟩
  exact((((Below.setCell xg.out (p:=⟨w.heap.size+1+1,0,none⟩) (by show _<=_;simp;omega) _).setCell (p:=⟨w.heap.size+1+1,1,none⟩) (by show _<=_;simp;omega) _).setCell (p:=⟨w.heap.size+1+1+1,0,none⟩) (by show _<=_;simp;omega) _).setCell (p:=⟨w.heap.size+1+1+1,1,none⟩) (by show _<=_;simp;omega) _).drew
def ei (n base:Nat) (v:Value) (w:World):Prop:=∃g,base<=g/\v = .slice (some ⟨g,0,none⟩) (af aa n).length (af aa n).length/\ar w g 23 (U (af aa n))
theorem ei.ext {n base:Nat} {v:Value} {w w':World} (h:ei n base v w) (e:Ext w w'):ei n base v w':=by obtain⟨g,h1,h2,h3⟩:=h;exact⟨g,h1,h2,h3.ext e⟩
theorem tr (n:Nat) (h0:n≠0) (hn:bl n<=549755813888) (w:World):Calls Tryz.prog 117 #[.agg #[.int .u64 (lo (n):Nat),.string (hi (n))]] w (cA (ei n w.heap.size) w):=
 (fC n hn w).mono λ_ _ ⟨v,he,hf,hx⟩=>⟨v,he,by
  rcases hf with ⟨h1,_⟩ | ⟨g,h1,h2,h3⟩
  ·exact absurd ((ay0 an).1 h1) h0
  ·exact⟨g,h1,h2,h3⟩,hx⟩
def QR (q r l:Nat) (v:Value) (w:World):Prop:=∃v1 v2,v = .tuple #[v1,v2]/\Mw q l v1 w/\Mw r l v2 w
theorem QR.ext {q r l:Nat} {v:Value} {w w':World} (h:QR q r l v w) (e:Ext w w'):QR q r l v w':=by obtain⟨v1,v2,h1,h2,h3⟩:=h;exact⟨v1,v2,h1,h2.ext e,h3.ext e⟩
theorem QR.x0 {q r l:Nat} (u:Value) (w:World) (h:QR q r l u w):∃vs:Array Value,u = .tuple vs/\∃x,vs[0]? = some x/\∀w',QR q r l u w'->Mw q l x w':=by
 obtain⟨v1,v2,rfl,_,_⟩:=h;refine⟨_,rfl,v1,rfl,?_⟩;rintro w' ⟨u1,u2,hu,h1,_⟩;injection hu with hu
 injection hu with hu;injection hu with Bl jg;rw[Bl];exact h1
theorem QR.x1 {q r l:Nat} (u:Value) (w:World) (h:QR q r l u w):∃vs:Array Value,u = .tuple vs/\∃x,vs[1]? = some x/\∀w',QR q r l u w'->Mw r l x w':=by
 obtain⟨v1,v2,rfl,_,_⟩:=h;refine⟨_,rfl,v2,rfl,?_⟩;rintro w' ⟨u1,u2,hu,_,h1⟩;injection hu with hu
 injection hu with hu;injection hu with Bl jg;injection jg with jg hu3;rw[jg];exact h1
theorem BJ (a b:Nat) (ha:bl a<=549755813888) (iL:b<=a) (cT:aa<=b) (v1 v2:Value) (acP acQ:Nat) (w:World) (h1:ei a acP v1 w) (h2:ei b acQ v2 w) :
  Calls Tryz.prog 152 #[v1,v2] w (cA (QR (a/b) (a%b) 8589934594) w):=by
 obtain⟨gx,_,rfl,cj⟩:=h1
 obtain⟨gy,_,rfl,ke⟩:=h2
 have jh:=dJ a ha
 have kh:2<=(af aa b).length:=by
  rcases aV 1 (af aa b).length with h | h
  ·exact h
  ·have:=(aJ an b 1).1 h;rw[Kv] at this;omega
 have hle:(af aa b).length<=(af aa a).length:=oW iL
 have y6:(af aa b).getD ((af aa b).length-1) 0≠0:=by rw[aP _ _ (by omega)];intro e;apply qj an b;rw[Cm,bF (by omega),e]
 obtain⟨n,hn⟩:∃n,(af aa b).length=n+1:=⟨(af aa b).length-1,by omega⟩
 obtain⟨m,hm⟩:∃m,(af aa a).length=m+n:=⟨(af aa a).length-n,by omega⟩
 rw[hn,pK] at y6
 have h:=yQ gx gy n m (af aa a) (af aa b) w cj ke (by omega) hn hm (by omega) (by omega) (aL an a) (aL an b) y6
 rw[amE an,amE an] at h
 rw[hn,hm]
 refine h.mono ?_
 rintro e w' ⟨u1,u2,rfl,h3,h4,h5⟩
 exact⟨_,rfl,⟨u1,u2,rfl,h3,h4⟩,h5⟩
theorem U2 (a b:Nat) (ha:bl a<=549755813888) (iL:b<=a) (cT:aa<=b) (w:World) :
  Calls Tryz.prog 109 #[.agg #[.int .u64 (lo (a):Nat),.string (hi (a))],.agg #[.int .u64 (lo (b):Nat),.string (hi (b))]] w (cg (.tuple #[.agg #[.int .u64 (lo (a/b):Nat),.string (hi (a/b))],.agg #[.int .u64 (lo (a%b):Nat),.string (hi (a%b))],.bool true]) w):=by
 have cX:bl b<=bl a:=eZ iL
 have kf:b≠0:=by unfold aa at cT;omega
 have kv:a≠0:=by omega
 have HB:=aad (λW=>kB b (by omega) W)
 have uF:bG a b=0\/bG a b=1:=by unfold bG;split<;>(try split)<;>omega
 obtain⟨z,hz,nm⟩:∃z,bG a b=z/\decide (z<0)=false:=⟨bG a b,rfl,by rcases uF with h | h<;>rw[h]<;>rfl⟩
 have HC:Hid (∀W,Calls Tryz.prog 108 #[.agg #[.int .u64 (lo (a):Nat),.string (hi (a))],.agg #[.int .u64 (lo (b):Nat),.string (hi (b))]] W (cg (.int .i64 z) W)):=aad (λW=>by have h:=lf a b ha (by omega) W;rw[hz] at h;exact h)
 have U4:Hid (∀W,Calls Tryz.prog 117 #[.agg #[.int .u64 (lo (a):Nat),.string (hi (a))]] W (cA (ei a 0) W)):=aad (λW=>(tr a kv ha W).mono λ_ _ ⟨v,h1,⟨g,_,h2⟩,h3⟩=>⟨v,h1,⟨g,ia _,h2⟩,h3⟩)
 have HWB:Hid (∀W,Calls Tryz.prog 117 #[.agg #[.int .u64 (lo (b):Nat),.string (hi (b))]] W (cA (ei b 0) W)):=aad (λW=>(tr b kf (by omega) W).mono λ_ _ ⟨v,h1,⟨g,_,h2⟩,h3⟩=>⟨v,h1,⟨g,ia _,h2⟩,h3⟩)
 have Zy:Hid (∀W v1 v2,ei a 0 v1 W->ei b 0 v2 W->Calls Tryz.prog 152 #[v1,v2] W (cA (QR (a/b) (a%b) 8589934594) W)):=aad (λW v1 v2 h1 h2=>BJ a b ha iL cT v1 v2 0 0 W h1 h2)
 have HF1:Hid (∀W v,Mw (a/b) 8589934594 v W->Calls Tryz.prog 115 #[v] W (cg (.agg #[.int .u64 (lo (a/b):Nat),.string (hi (a/b))]) W)):=aad (λW v h=>js W h (by omega))
 have HF2:Hid (∀W v,Mw (a%b) 8589934594 v W->Calls Tryz.prog 115 #[v] W (cg (.agg #[.int .u64 (lo (a%b):Nat),.string (hi (a%b))]) W)):=aad (λW v h=>js W h (by omega))
 have O9:(((bl b:Nat):Int) == 0)=false:=pN.2 (by have:=ix kf;omega)
 have IS:=iz cT
 have qM:=iz (j3 cT iL)
 clear cT iL ha cX kf kv uF hz
 generalize a/b=q at *
 generalize a%b=r at *
 generalize lo q=lq at *
 generalize hi q=sq at *
 generalize lo r=lr at *
 generalize hi r=sr at *
 generalize bl b=l at *
 generalize lo a=la at *
 generalize hi a=sa at *
 generalize lo b=lb at *
 generalize hi b=sb at *
 go_enter Tryz.func109,Tryz.ntmps109
 go_wp2_with fail
 generalize hW:(((w.alloc (.cells #[.int .u64 la,.string sa] 36)).alloc (.cells #[.int .u64 lb,.string sb] 36)).alloc (.cells #[.int .u64 0,.string ⟨#[]⟩] 36)).alloc (.cells #[.int .u64 0,.string ⟨#[]⟩] 36)=W
 obtain⟨hp,hq,hr,hs,hx⟩:=r8 w W _ _ _ _ hW
 clear hW
 refine(HB.out _).mono ?_
 rintro e w3 ⟨rfl,dM⟩
 obtain⟨p0,p1,_,_⟩:=(hp.ext dM).two
 obtain⟨q0,q1,_,_⟩:=(hq.ext dM).two
 have uU:=aad dM
 have HP:=aad hp
 have HQ:=aad hq
 have HR:=aad hr
 have HS:=aad hs
 have HX:=aad hx
 clear hp hq hr hs hx dM
 go_wp2_with fail
 refine(HC.out _).mono ?_
 rintro e w4 ⟨rfl,Fc⟩
 have gN:=uU.out.trans Fc
 clear p0 p1 q0 q1
 obtain⟨p0,p1,_,_⟩:=(HP.out.ext gN).two
 obtain⟨q0,q1,_,_⟩:=(HQ.out.ext gN).two
 have hp4:=HP.out.ext gN
 have hq4:=HQ.out.ext gN
 have Bq:=aad (HR.out.ext gN)
 have Jh:=aad (HS.out.ext gN)
 have xg:=aad (HX.out.trans gN)
 clear gN Fc HR HS HX uU HP HQ HB HC
 go_wp2
 clear p0 p1 q0 q1
 refine iu vz 8 [λv _=>v = .agg #[.int .u64 la,.string sa],ei a 0,λv _=>v = .agg #[.int .u64 lb,.string sb],ei b 0,QR q r 8589934594,QR q r 8589934594,Mw q 8589934594,Mw r 8589934594] (by kernel_rfl) (by kernel_rfl) ?hG ?hQ ⟨λh=>(by cases h),λ_=>?o0,λh=>(by cases h),λ_=>?o1,λh=>(by cases h),λ_=>?o2,λh=>(by cases h),λ_=>?o3,λh=>(by cases h),λ_=>?o4,λh=>(by cases h),λ_=>?o5,λ_=>?o6,λh=>(by cases h),λ_=>?o7,λh=>(by cases h),trivial⟩ ?fin
 case hG=>
  intro g hg
  simp only[tQ,wc,or_false] at hg
  rcases hg with rfl | rfl | rfl | rfl | rfl | rfl | rfl | rfl
  all_goals first | exact λ_ _ _ _ h=>h | exact λ_ _ _ e h=>h.ext e
 case hQ=>exact λc a w d v h=>by cases d<;>exact h
 case o0=>
  intro v w' hw hj
  have c0:w'.cell? ⟨w.heap.size,0,none⟩=some (.int .u64 la):=(hp4.ext hw).cell 0
  have c1:w'.cell? ⟨w.heap.size,1,none⟩=some (.string sa):=(hp4.ext hw).cell 1
  simp[aqo]
  go_wp2
  exact⟨rfl,rfl,Ext.refl _,λd hd=>by cases hd;rfl⟩
 case o1=>
  intro v w' hw hj
  have e0:v 0 = .agg #[.int .u64 la,.string sa]:=hj 0 (by kernel_rfl)
  simp[aqo,Act.put,e0]
  go_wp2_with fail
  refine(U4.out _).mono ?_
  rintro e w2 ⟨u,rfl,h1,h2⟩
  go_wp2
  exact⟨rfl,rfl,h2,λd hd=>by cases hd;exact h1⟩
 case o2=>
  intro v w' hw hj
  have c0:w'.cell? ⟨(w.heap.size+1),0,none⟩=some (.int .u64 lb):=(hq4.ext hw).cell 0
  have c1:w'.cell? ⟨(w.heap.size+1),1,none⟩=some (.string sb):=(hq4.ext hw).cell 1
  simp[aqo,Act.put]
  go_wp2
  exact⟨rfl,rfl,Ext.refl _,λd hd=>by cases hd;rfl⟩
 case o3=>
  intro v w' hw hj
  have e2:v 2 = .agg #[.int .u64 lb,.string sb]:=hj 2 (by kernel_rfl)
  simp[aqo,Act.put,e2]
  go_wp2_with fail
  refine(HWB.out _).mono ?_
  rintro e w2 ⟨u,rfl,h1,h2⟩
  go_wp2
  exact⟨rfl,rfl,h2,λd hd=>by cases hd;exact h1⟩
 case o4=>
  intro v w' hw hj
  have e1:(ei a 0) (v 1) w':=hj 1 (by kernel_rfl)
  have e3:(ei b 0) (v 3) w':=hj 3 (by kernel_rfl)
  simp[aqo,Act.put]
  go_wp2_with fail
  refine(Zy.out _ _ _ e1 e3).mono ?_
  rintro e w2 ⟨u,rfl,h1,h2⟩
  go_wp2
  exact⟨rfl,rfl,h2,λd hd=>by cases hd;exact h1⟩
 case o5=>
  intro v w' hw hj
  have e4:(QR q r 8589934594) (v 4) w':=hj 4 (by kernel_rfl)
  simp[aqo,Act.put]
  go_wp2;exact⟨rfl,rfl,Ext.refl _,λd hd=>by cases hd;exact e4⟩
 case o6=>exact⟨rfl,57,0,5,rfl,(by kernel_rfl),(by kernel_rfl),QR.x0⟩
 case o7=>exact⟨rfl,57,1,5,rfl,(by kernel_rfl),(by kernel_rfl),QR.x1⟩
 case fin=>
  intro v w' hw hj
  have e6:(Mw q 8589934594) (v 6) w':=hj 6 63 (by omega) rfl
  have e7:(Mw r 8589934594) (v 7) w':=hj 7 64 (by omega) rfl
  simp[aqo,Act.put]
  have H6:=aad e6
  have H7:=aad e7
  have HW':=aad hw
  clear e6 e7 hw hj hp4 hq4
  go_wp2_with fail
  refine(HF1.out _ _ H6.out).mono ?_
  rintro e w6 ⟨rfl,UY⟩
  have Jg:=aad UY
  clear UY
  go_wp2_with fail
  refine(HF2.out _ _ (H7.out.ext Jg.out)).mono ?_
  rintro e w7 ⟨rfl,tu⟩
  have gN:=(HW'.out.trans Jg.out).trans tu
  obtain⟨r0,r1,f0,f1⟩:=(Bq.out.ext gN).two
  obtain⟨s0,s1,g0,g1⟩:=(Jh.out.ext gN).two
  have Zz:=aad (Bq.out.ext gN)
  have ZA:=aad (Jh.out.ext gN)
  have HX5:=aad (xg.out.trans gN)
  clear gN tu
  go_wp2
  refine mT (w.heap.size+1+1) (w.heap.size+1+1+1) _ _ _ _ _ rfl rfl rfl rfl ((((Zz.out.set 0 _).set 1 _).cN (by simp) _).cN (by simp) _) ((((ZA.out.cN (by simp) _).cN (by simp) _).set 0 _).set 1 _) rfl ⟨rfl,?_⟩
  exact(((Below.setCell HX5.out (p:=⟨w.heap.size+1+1,0,none⟩) (by show _<=_;simp;omega) _).setCell (p:=⟨w.heap.size+1+1,1,none⟩) (by show _<=_;simp;omega) _).setCell (p:=⟨w.heap.size+1+1+1,0,none⟩) (by show _<=_;simp;omega) _).setCell (p:=⟨w.heap.size+1+1+1,1,none⟩) (by show _<=_;simp;omega) _
theorem bS.ak {g:Nat} {w w':World} (h:bS g w w') {p:Addr} {v:Value} (hc:w.cell? p=some v) (hp:p.block<w.heap.size) (ay:p.block≠g):w'.cell? p=some v:=(World.cell?_of_block (h.block p.block hp (λe=>ay (by injection e)))).trans hc
def DWP (g n k q r:Nat) (w:World) (e:Ending) (w':World):Prop:=∃L,L.length=n/\aC aa L/\val aa L=q/\e = .returned (.tuple #[.slice (some ⟨g,0,none⟩) k n,.int .u64 (r:Nat)])/\ar w' g 23 (U L)/\bS g w w'
theorem Po (a b:Nat) (ha:bl a<=549755813888) (cT:aa<=a) (hb:b<aa) (h0:b≠0) (w:World) :
  Calls Tryz.prog 109 #[.agg #[.int .u64 (lo (a):Nat),.string (hi (a))],.agg #[.int .u64 (lo (b):Nat),.string (hi (b))]] w (cg (.tuple #[.agg #[.int .u64 (lo (a/b):Nat),.string (hi (a/b))],.agg #[.int .u64 (lo (a%b):Nat),.string (hi (a%b))],.bool true]) w):=by
 have hm:a%b<aa:=Gc (pv _ (by omega)) hb
 have cX:bl b<=bl a:=eZ (by omega)
 have kv:a≠0:=by omega
 have HB:Hid (∀W,Calls Tryz.prog 105 #[.agg #[.int .u64 b,.string ⟨#[]⟩]] W (cg (.int .i64 (bl b:Nat)) W)):=aad (λW=>by have h:=kB b (by omega) W;rw[nE hb] at h;exact h)
 have HC:Hid (∀W,Calls Tryz.prog 108 #[.agg #[.int .u64 (lo (a):Nat),.string (hi (a))],.agg #[.int .u64 b,.string ⟨#[]⟩]] W (cg (.int .i64 1) W)):=aad (λW=>by have h:=lf a b ha (by omega) W;rw[dB (by omega),nE hb] at h;exact h)
 have U4:=aad (λW=>tr a kv ha W)
 have Zy:Hid (∀g W,ar W g 23 (U (af aa a))->Calls Tryz.prog 151 #[.slice (some ⟨g,0,none⟩) (af aa a).length (af aa a).length,.int .u64 b] W (DWP g (af aa a).length (af aa (a/b)).length (a/b) (a%b) W)):=aad (λg W h=>by have h:=BG g (af aa a) b W h (dJ a ha) (aL an a) (by omega) hb;refine h.mono ?_;rintro e w' ⟨L,l1,l2,l3,he,l4,l5⟩;rw[amE an] at l3 he;exact⟨L,l1,l2,l3,he,l4,l5⟩)
 have HF:Hid (∀g W L,ar W g 23 (U L)->L.length=(af aa a).length->aC aa L->val aa L=a/b->Calls Tryz.prog 115 #[.slice (some ⟨g,0,none⟩) (af aa (a/b)).length (af aa a).length] W (cg (.agg #[.int .u64 (lo (a/b):Nat),.string (hi (a/b))]) W)):=aad (λg W L hB hl hd hv=>by have hle:=gD an hd;rw[hv] at hle;have ht:=tY an hd;rw[hv] at ht;have h:=eh g L.length (L.take (af aa (a/b)).length) (L.drop (af aa (a/b)).length) W (by rw[uX];exact hB) (by simp;omega) (by have:=dJ a ha;simp;omega) (hd.take _);rw[iY,pw hle,<-ht,amE an,hl] at h;exact h)
 have O9:(((bl b:Nat):Int) == 0)=false:=pN.2 (by have:=ix h0;omega)
 have qM:=iz cT
 have ma:(b:Int)<=18446744073709551615:=by unfold aa at hb;omega
 rw[nE hb,nE hm]
 clear cT hb ha cX kv hm h0
 generalize a/b=q at *
 generalize a%b=r at *
 unfold ei at U4
 generalize (af aa q).length=kq at *
 generalize mg:af aa a=xs at *
 clear mg
 generalize xs.length=n at *
 generalize lo q=lq at *
 generalize hi q=sq at *
 generalize bl b=l at *
 generalize lo a=la at *
 generalize hi a=sa at *
 go_enter Tryz.func109,Tryz.ntmps109
 go_wp2_with fail
 generalize hW:(((w.alloc (.cells #[.int .u64 la,.string sa] 36)).alloc (.cells #[.int .u64 b,.string ⟨#[]⟩] 36)).alloc (.cells #[.int .u64 0,.string ⟨#[]⟩] 36)).alloc (.cells #[.int .u64 0,.string ⟨#[]⟩] 36)=W
 obtain⟨hp,hq,hr,hs,hx⟩:=r8 w W _ _ _ _ hW
 clear hW
 refine(HB.out _).mono ?_
 rintro e w3 ⟨rfl,dM⟩
 obtain⟨p0,p1,_,_⟩:=(hp.ext dM).two
 obtain⟨q0,q1,_,_⟩:=(hq.ext dM).two
 have uU:=aad dM
 have HP:=aad hp
 have HQ:=aad hq
 have HR:=aad hr
 have HS:=aad hs
 have HX:=aad hx
 clear hp hq hr hs hx dM
 go_wp2_with fail
 refine(HC.out _).mono ?_
 rintro e w4 ⟨rfl,Fc⟩
 have gN:=uU.out.trans Fc
 clear p0 p1 q0 q1
 obtain⟨p0,p1,_,_⟩:=(HP.out.ext gN).two
 obtain⟨q0,q1,_,_⟩:=(HQ.out.ext gN).two
 have Uw:=HR.out.ext gN
 have hs4:=HS.out.ext gN
 have Bq:=aad Uw
 have Jh:=aad hs4
 have xg:=aad (HX.out.trans gN)
 have br:w.heap.size+1+1+1<w4.heap.size:=hs4.lt
 clear gN Fc HR HS HX uU HP HQ HB HC Uw hs4
 go_wp2
 go_region_held3 (λw'=>w'.cell? ⟨w.heap.size,0,none⟩=some (.int .u64 la)/\w'.cell? ⟨w.heap.size,1,none⟩=some (.string sa)/\w'.cell? ⟨w.heap.size+1,0,none⟩=some (.int .u64 b)/\w'.cell? ⟨w.heap.size+1,1,none⟩=some (.string ⟨#[]⟩))
  (first | exact⟨p0,p1,q0,q1⟩ | exact⟨dL.ak p0,dL.ak p1,dL.ak q0,dL.ak q1⟩ | exact⟨bg.ak (dL.ak p0) (by have:=dL.size;simp at *;omega) (by simp at *;omega),bg.ak (dL.ak p1) (by have:=dL.size;simp at *;omega) (by simp at *;omega),bg.ak (dL.ak q0) (by have:=dL.size;simp at *;omega) (by simp at *;omega),bg.ak (dL.ak q1) (by have:=dL.size;simp at *;omega) (by simp at *;omega)⟩)
  (first | (go_at_call 117;refine(U4.out _).mono ?_;rintro e w1 ⟨v1,rfl,⟨g,hg,rfl,bn⟩,dL⟩) | (go_at_call 151;refine(Zy.out g _ bn).mono ?_;rintro e w2 ⟨L,l1,l2,l3,rfl,cF,bg⟩))
 have Fe:Ext w4 w1:=dL.pH
 have iU:w4.heap.size<=g:=hg
 have xe:Hid (Ext w w2):=aad (bg.ext (xg.out.trans Fe) (by omega))
 have Zz:=aad (bg.kO (Bq.out.ext Fe) (by omega))
 have ZA:=aad (bg.kO (Jh.out.ext Fe) (by omega))
 have nZ:=aad cF
 have HL1:=aad l1
 have HL3:=aad l3
 clear dL Fe bn cF bg l1 l3 p0 p1 q0 q1 Bq Jh xg U4 Zy
 go_wp2_with fail
 refine(HF.out g _ L nZ.out HL1.out l2 HL3.out).mono ?_
 rintro e w7 ⟨rfl,tu⟩
 obtain⟨r0,r1,f0,f1⟩:=(Zz.out.ext tu).two
 obtain⟨s0,s1,g0,g1⟩:=(ZA.out.ext tu).two
 have HR6:=aad (Zz.out.ext tu)
 have HS6:=aad (ZA.out.ext tu)
 have Jg:=aad (xe.out.trans tu)
 clear tu
 go_wp2
 refine mT (w.heap.size+1+1) (w.heap.size+1+1+1) _ _ _ _ _ rfl rfl rfl rfl ((((HR6.out.set 0 _).set 1 _).cN (by simp) _).cN (by simp) _) ((((HS6.out.cN (by simp) _).cN (by simp) _).set 0 _).set 1 _) rfl ⟨rfl,?_⟩
 exact(((Below.setCell Jg.out (p:=⟨w.heap.size+1+1,0,none⟩) (by show _<=_;simp;omega) _).setCell (p:=⟨w.heap.size+1+1,1,none⟩) (by show _<=_;simp;omega) _).setCell (p:=⟨w.heap.size+1+1+1,0,none⟩) (by show _<=_;simp;omega) _).setCell (p:=⟨w.heap.size+1+1+1,1,none⟩) (by show _<=_;simp;omega) _
theorem U5 (a b:Nat) (ha:bl a<=549755813888) (hb:bl b<=549755813888) (h0:b≠0) (w:World) :
  Calls Tryz.prog 109 #[.agg #[.int .u64 (lo (a):Nat),.string (hi (a))],.agg #[.int .u64 (lo (b):Nat),.string (hi (b))]] w (cg (.tuple #[.agg #[.int .u64 (lo (a/b):Nat),.string (hi (a/b))],.agg #[.int .u64 (lo (a%b):Nat),.string (hi (a%b))],.bool true]) w):=by
 rcases aV b aa with h | h
 ·rcases aV a aa with h' | h'
  ·exact Jb a b h' h h0 w
  ·exact Po a b ha h' h h0 w
 ·rcases aV a b with h' | h'
  ·have:=Pn a b hb h' h w
   rw[sD h',nK h']
   exact this
  ·exact U2 a b ha h' h w
theorem cdiv {j k a b:Nat} (ha:Sm j a) (hb:Sm k b) (h0:b≠0) (W:World) (h:max j k<=549755813888:=by decide) :
  Calls Tryz.prog 109 #[.agg #[.int .u64 (lo (a):Nat),.string (hi (a))],.agg #[.int .u64 (lo (b):Nat),.string (hi (b))]] W (cg (.tuple #[.agg #[.int .u64 (lo (a/b):Nat),.string (hi (a/b))],.agg #[.int .u64 (lo (a%b):Nat),.string (hi (a%b))],.bool true]) W):=U5 a b (by unfold Sm at ha;omega) (by unfold Sm at hb;omega) h0 W
theorem xB {g:Nat} {xs:List Nat} {v:Value} {w:World} (h:OW g xs v w) (hl:xs.length<=1099511627776) (hd:aC aa xs) (hv:0<val aa xs) (ht:cK w) :
  Calls Tryz.prog 154 #[v] w λe w'=>e = .returned (.int .i64 (tw (val aa xs):Nat))/\w=w':=by
 obtain⟨off,c,rfl,_,aK⟩:=h.open
 exact uk g off c xs w hl hd hv ht aK
theorem BK (n k:Nat) (h:bl n<=64*k):(af aa n).length<=k:=by rw[aJ an,iy];exact dz (gL n) (iS (by omega) h)
theorem Ji {G T i:Nat} (h:65536*i<T) {r:Nat} (hr:r=min (T-65536*i) 65536):G*2^min T (65536*i)*2^r=G*2^min T (65536*(i+1)):=by rw[ky,<-po];congr 2;omega
theorem yR {G T X:Nat} (h:G*2^T=X) (j:Nat) (hj:j<=T):G*2^j<=X:=by rw[<-h];exact eJ _ (iS (by omega) hj)
structure Ff (B:Nat) (W:World) (G m k a b ga gb:Nat) (v5 v6:Value) (wr:World):Prop where
 oa:OW ga (af aa a) v5 wr
 ob:OW gb (af aa b) v6 wr
 ne:ga≠gb
 ha:B<=ga
 hb:B<=gb
 ex:Ext W wr
 pa:a%2=1
 pb:b%2=1
 gcd:Nat.gcd a b=G
 la:a<=m
 lb:b<=m
 lk:a+b<=k
theorem BL (x y:Nat) (vC:0<x) (jE:0<y) (hx:bl x<=549755813888) (hy:bl y<=549755813888) (w:World) (ht:cK w) :
  Calls Tryz.prog 112 #[.agg #[.int .u64 (lo (x):Nat),.string (hi (x))],.agg #[.int .u64 (lo (y):Nat),.string (hi (y))]] w (cg (.agg #[.int .u64 (lo (Nat.gcd x y):Nat),.string (hi (Nat.gcd x y))]) w):=by
 have HA:Hid (∀W,Calls Tryz.prog 153 #[.agg #[.int .u64 (lo (x):Nat),.string (hi (x))]] W λe w'=>∃v L g,e = .returned v/\L.length<=8589934593/\aC aa L/\val aa L=x/\W.heap.size<=g/\OW g L v w'/\Ext W w'):=aad λW=>uo x hx W
 have HB:Hid (∀W,Calls Tryz.prog 153 #[.agg #[.int .u64 (lo (y):Nat),.string (hi (y))]] W λe w'=>∃v L g,e = .returned v/\L.length<=8589934593/\aC aa L/\val aa L=y/\W.heap.size<=g/\OW g L v w'/\Ext W w'):=aad λW=>uo y hy W
 have HX:=aad (And.intro vC hx)
 have HY:=aad (And.intro jE hy)
 have HT:=aad ht
 clear vC jE hx hy ht
 generalize qM:hi x=sa at *
 generalize IS:hi y=sb at *
 generalize jh:lo x=la at *
 generalize kh:lo y=lb at *
 clear qM IS jh kh
 obtain⟨lg,hlg⟩:∃lg,lo (Nat.gcd x y)=lg:=⟨_,rfl⟩
 obtain⟨sg',hsg⟩:∃sg',hi (Nat.gcd x y)=sg':=⟨_,rfl⟩
 have HLG:=aad hlg
 have HSG:=aad hsg
 rw[hlg,hsg]
 clear hlg hsg
 go_enter Tryz.func112,Tryz.ntmps112
 go_wp2
 generalize hW:((w.alloc (.cells #[.int .u64 la,.string sa] 36)).alloc (.cells #[.int .u64 lb,.string sb] 36)).alloc (.cells #[.int .u64 0,.string ⟨#[]⟩] 36)=W
 obtain⟨p6,p7,rX,rY⟩:=lB w W _ _ _ _ hW
 have br:W.heap.size=w.heap.size+1+1+1:=by rw[<-hW];simp
 clear hW
 have kr:W.cell? ⟨w.heap.size,0,none⟩=some (.int .u64 la):=p6.cell 0
 have cU:W.cell? ⟨w.heap.size,1,none⟩=some (.string sa):=p6.cell 1
 have ks:W.cell? ⟨w.heap.size+1,0,none⟩=some (.int .u64 lb):=p7.cell 0
 have kZ:W.cell? ⟨w.heap.size+1,1,none⟩=some (.string sb):=p7.cell 1
 go_region_held3 (λw'=>w'.cell? ⟨w.heap.size,0,none⟩=some (.int .u64 la)/\w'.cell? ⟨w.heap.size,1,none⟩=some (.string sa)/\w'.cell? ⟨w.heap.size+1,0,none⟩=some (.int .u64 lb)/\w'.cell? ⟨w.heap.size+1,1,none⟩=some (.string sb))
  (first | exact⟨kr,cU,ks,kZ⟩ | exact⟨dL.ak kr,dL.ak cU,dL.ak ks,dL.ak kZ⟩ | exact⟨(dL.trans jk).ak kr,(dL.trans jk).ak cU,(dL.trans jk).ak ks,(dL.trans jk).ak kZ⟩)
  (first | (go_at_call_of 153 (Value.string sa);refine(HA.out _).mono ?_;rintro e w1 ⟨v1,L1,g1,rfl,ta,ki,fj,bn,Ph,dL⟩) | (go_at_call_of 153 (Value.string sb);refine(HB.out _).mono ?_;rintro e w2 ⟨v2,L2,g2,rfl,pX,uI,jv,cF,ZB,jk⟩))
 have Fe:Ext W w1:=dL.pH
 have ay:g1≠g2:=by have:=Ph.lt;omega
 have aaQ:W.heap.size<=g1:=bn
 have M6:W.heap.size<=g2:=j3 Fe.size cF
 have M7:=Ph.ext jk
 have ZC:Ext W w2:=Fe.trans jk
 have HR:=aad rX
 have iX:=aad rY
 have Jj:=aad br
 have I1:cK w2:=(HT.out.ext rY).ext ZC
 have ET:∀V,Ext W V->cK V:=λV hV=>(HT.out.ext rY).ext hV
 have aeW:=aad ET
 have BI:=aad (xB M7 (by omega) ki (by rw[fj];exact HX.out.1) I1)
 have UX:=aad (xB ZB (by omega) uI (by rw[jv];exact HY.out.1) I1)
 have HD1:=aad (qP g1 L1 v1 w2 M7 ki (by rw[fj];exact HX.out.1) (by omega) I1)
 have HD2:Hid (∀V,bS g1 w2 V->Calls Tryz.prog 155 #[v2] V λe w'=>∃v',e = .returned v'/\OW g2 (af aa (od y)) v' w'/\bS g2 V w'):=aad λV hV=>by have h:=qP g2 L2 v2 V (ZB.but hV (λe=>ay e.symm)) uI (by rw[jv];exact HY.out.1) (by omega) (ET V (hV.ext ZC (by omega)));rw[jv] at h;exact h
 rw[fj] at BI HD1
 rw[jv] at UX
 have U6:min ((tw x:Nat):Int) ((tw y:Nat):Int)=((min (tw x) (tw y):Nat):Int):=by omega
 have HV:=aad (And.intro aaQ M6)
 have HEW:=aad ZC
 have HGO:=aad (Y0 HX.out.1 HY.out.1)
 have HPX:=aad (iK HX.out.1)
 have HPY:=aad (iK HY.out.1)
 have hTx:min (tw x) (tw y)<=549755813888:=j3 (Nat.min_le_left _ _) (j3 (Ab (zG HX.out.1 (gL x))) HX.out.2)
 obtain⟨o1,c1,rfl,_⟩:=M7.open
 obtain⟨o2,c2,rfl,_⟩:=ZB.open
 clear Ph M7 ZB dL jk Fe ZC kr cU ks kZ p6 p7 rX rY br I1 ET bn cF ta pX ki uI fj jv HA HB aaQ M6
 generalize min (tw x) (tw y)=T at *
 generalize (tw x:Int)=zx at *
 generalize (tw y:Int)=zy at *
 go_wp2_with fail
 refine(BI.out).mono ?_
 rintro e w3 ⟨rfl,rfl⟩
 go_wp2_with fail
 refine(UX.out).mono ?_
 rintro e w3 ⟨rfl,rfl⟩
 go_wp2_with fail
 refine(HD1.out).mono ?_
 rintro e w3 ⟨v3,rfl,ho3,U7⟩
 have Pp:=aad ho3
 have Jk:=aad U7
 obtain⟨o3,c3,rfl,_⟩:=ho3.open
 clear ho3 U7
 go_wp2_with fail
 refine(HD2.out w3 Jk.out).mono ?_
 rintro e w4 ⟨v4,rfl,ho4,qQ⟩
 have hE3:Ext W w3:=Jk.out.ext HEW.out (by have:=HV.out;omega)
 have hE4:Ext W w4:=qQ.ext hE3 (by have:=HV.out;omega)
 have HI:Hid (Ff W.heap.size W (Nat.gcd (od x) (od y)) (max x y) (od x+od y) (od x) (od y) g1 g2 (.slice (some ⟨g1,o3,none⟩) (af aa (od x)).length c3) v4 w4):=aad ⟨Pp.out.but qQ ay,ho4,ay,HV.out.1,HV.out.2,hE4,HPX.out.2,HPY.out.2,rfl,j3 (ti x) (Hr _ _),j3 (ti y) (Hl _ _),bX _⟩
 obtain⟨o4,c4,rfl,_⟩:=ho4.open
 have HM:Hid (bl (max x y)<=549755813888):=aad (by
  have h1:=HX.out.2;have h2:=HY.out.2;rcases Nat.le_total x y with h | h
  ·rw[Nat.max_eq_right h];exact h2
  ·rw[Nat.max_eq_left h];exact h1)
 clear ho4 qQ hE3 hE4 Pp Jk HPX HPY HD1 HD2 BI UX U6
 generalize (af aa (od x)).length=n3 at *
 generalize (af aa (od y)).length=n4 at *
 generalize max x y=m at *
 generalize hGe:Nat.gcd (od x) (od y)=G at *
 have HG:=aad hGe
 obtain⟨K,hK⟩:∃K,od x+od y=K:=⟨_,rfl⟩
 rw[hK] at HI
 have HI0:Hid (∃a b ga gb,Ff W.heap.size W G m K a b ga gb (.slice (some ⟨g1,o3,none⟩) n3 c3) (.slice (some ⟨g2,o4,none⟩) n4 c4) w4):=aad ⟨_,_,_,_,HI.out⟩
 clear HI hK hGe HG ay
 go_wp2
 go_loopg [5,6] K (λk s5 s6 wr=>∃(g5 f5 l5 e5 g6 f6 l6 e6:Nat),s5 = .slice (some ⟨g5,f5,none⟩) l5 e5/\s6 = .slice (some ⟨g6,f6,none⟩) l6 e6/\Hid (∃a b ga gb,Ff W.heap.size W G m k a b ga gb (.slice (some ⟨g5,f5,none⟩) l5 e5) (.slice (some ⟨g6,f6,none⟩) l6 e6) wr))
 case atStart=>exact⟨g1,o3,n3,c3,g2,o4,n4,c4,rfl,rfl,HI0⟩
 case round=>
  obtain⟨g5,f5,l5,e5,g6,f6,l6,e6,rfl,rfl,hI⟩:=hrel
  obtain⟨a,b,ga,gb,hI⟩:=hI.out
  have ko:bl a<=549755813888:=j3 (eZ hI.la) HM.out
  have cX:bl b<=549755813888:=j3 (eZ hI.lb) HM.out
  have Td:0<a:=by have:=hI.pa;omega
  have Zi:0<b:=by have:=hI.pb;omega
  have zN:=aad (yO ga gb a b _ _ wr hI.oa hI.ob ko cX)
  have U8:Hid (∀(g d:Nat) V v',0<d->bl d<=549755813888->OW g (af aa d) v' V->Ext W V->Calls Tryz.prog 155 #[v'] V λe w'=>∃v'',e = .returned v''/\OW g (af aa (od d)) v'' w'/\bS g V w'):=aad λg d V v' h0 hd ho hV=>by have h:=qP g (af aa d) v' V ho (aL an d) (by rw[amE an];exact h0) (by have:=dJ d hd;omega) (aeW.out V hV);rw[amE an] at h;exact h
  have HI:=aad hI
  rcases uZ a b with iL | iL | iL
  ·rw[di iL] at zN
   have U9:Hid (∀V,Ext wr V->Calls Tryz.prog 157 #[.slice (some ⟨g6,f6,none⟩) l6 e6,.slice (some ⟨g5,f5,none⟩) l5 e5] V λe w'=>∃v',e = .returned v'/\OW gb (af aa (b-a)) v' w'/\bS gb V w'):=aad λV hV=>oZ gb ga b a _ _ V (hI.ob.ext hV) (hI.oa.ext hV) hI.ne cX (Ab iL)
   have HF:Hid (∀V v',OW gb (af aa (od (b-a))) v' V->bS gb wr V->Ff W.heap.size W G m (od (b-a)+a) (od (b-a)) a gb ga v' (.slice (some ⟨g5,f5,none⟩) l5 e5) V/\od (b-a)+a<gk):=aad λV v' ho hV=>⟨⟨ho,hI.oa.but hV hI.ne,hI.ne.symm,hI.hb,hI.ha,hV.ext hI.ex hI.hb,(iK (by omega)).2,hI.pa,by rw[zF iL hI.pa,CN];exact hI.gcd,j3 (ti _) (by have:=hI.lb;omega),hI.la,bX _⟩,by have:=hI.lk;have:=ti (b-a);omega⟩
   have ks:0<b-a:=by omega
   have hZ:bl (b-a)<=549755813888:=j3 (eZ (by omega)) cX
   have HD:=aad (λV v' ho hV=>U8.out gb (b-a) V v' ks hZ ho hV)
   clear hI ko cX Td Zi iL ks hZ U8
   go_wp2_with fail
   refine(zN.out).mono ?_
   rintro e w5 ⟨rfl,Fg⟩
   have tv:=aad Fg
   clear Fg
   go_wp2_with fail
   refine(U9.out w5 tv.out).mono ?_
   rintro e w6 ⟨v6,rfl,Jl,Va⟩
   have HO6:=aad Jl
   have Vb:Hid (bS gb wr w6):=aad ((bS.aO tv.out).trans Va)
   obtain⟨o7,c7,rfl,_⟩:=Jl.open
   clear Jl Va
   go_wp2_with fail
   refine(HD.out w6 _ HO6.out (Vb.out.ext HI.out.ex HI.out.hb)).mono ?_
   rintro e w7 ⟨v7,rfl,Jm,BM⟩
   have Vc:=aad (HF.out w7 v7 Jm (Vb.out.trans BM))
   obtain⟨o8,c8,rfl,_⟩:=Jm.open
   clear Jm BM
   go_wp2
   go_roundg (od (b-a)+a)
   case measure=>exact Vc.out.2
   case rel=>exact⟨_,_,_,_,_,_,_,_,rfl,rfl,aad ⟨_,_,_,_,Vc.out.1⟩⟩
  ·subst iL
   have e0:bG a a=0:=vE a
   rw[e0] at zN
   have hGa:G=a:=by rw[<-hI.gcd,Nat.gcd_self]
   have ae5:Hid (∀V,Ext wr V->Calls Tryz.prog 158 #[.slice (some ⟨g5,f5,none⟩) l5 e5] V (cg (.agg #[.int .u64 (lo (G):Nat),.string (hi (G))]) V)):=aad λV hV=>by have h:=BD ga (af aa a) _ V (hI.oa.ext hV) (aL an a) (BK a 8589934592 (by omega));rw[amE an] at h;rw[hGa];exact h
   have ae6:=aad hI.ex
   have me:=aad (show G*2^T=Nat.gcd x y by rw[HGO.out,eM])
   clear hI ko cX Td Zi hGa U8 HI e0
   go_wp2_with fail
   refine(zN.out).mono ?_
   rintro e w5 ⟨rfl,Fg⟩
   have tv:=aad Fg
   clear Fg
   go_wp2_with fail
   refine(ae5.out w5 tv.out).mono ?_
   rintro e w6 ⟨rfl,he6⟩
   have BO:Hid (Ext W w6):=aad ((ae6.out.trans tv.out).trans he6)
   have hgz:w.heap.size+1+1<w6.heap.size:=by have:=BO.out.size;have:=Jj.out;omega
   clear he6 tv
   have e1:G*2^min T (65536*0)=G:=by simp
   have E1:=aad e1
   clear e1
   generalize hlG:lo G=lG at *
   generalize hsG:hi G=sG at *
   have Vd:=aad (And.intro hlG hsG)
   clear hlG hsG
   go_wp2
   have hb9:ar (w6.alloc (.cells #[.int .u64 lG,.string sG] 36)) w6.heap.size 36 [.int .u64 lG,.string sG]:=ar.new w6 _ _
   have hx9:Ext W (w6.alloc (.cells #[.int .u64 lG,.string sG] 36)):=BO.out.alloc _
   generalize w6.alloc (.cells #[.int .u64 lG,.string sG] 36)=w9 at *
   have aaR:Hid (W.heap.size<=w6.heap.size):=aad BO.out.size
   have HB9:Hid (ar w9 w6.heap.size 36 [.int .u64 (lo (G*2^min T (65536*0)):Nat),.string (hi (G*2^min T (65536*0)))]):=aad (by rw[E1.out,Vd.out.1,Vd.out.2];exact hb9)
   have HX9:=aad hx9
   clear hb9 hx9 BO E1 Vd
   generalize w6.heap.size=g9 at *
   go_loopw [7] (λt wr2=>∃(i:Nat) (z:Int),t = .int .i64 z /\ -65536<=z/\z<=549755813888/\Hid (z=(T:Int)-65536*(i:Int))/\Hid (ar wr2 g9 36 [.int .u64 (lo (G*2^min T (65536*i)):Nat),.string (hi (G*2^min T (65536*i)))])/\Hid (Ext W wr2)) (λt _=>(intOf t).toNat)
   case atStart=>exact⟨0,T,rfl,by omega,by omega,aad (by omega),HB9,HX9⟩
   case round=>
    obtain⟨i,z,rfl,pR,xa,hz,hb,hx⟩:=hrel
    by_cases hzp:0<z
    ·have hTi:65536*i<T:=by have:=hz.out;omega
     obtain⟨r,hr⟩:∃r,r=min (T-65536*i) 65536:=⟨_,rfl⟩
     have U6:min z 65536=(r:Int):=by have:=hz.out;omega
     have YS:bl (G*2^min T (65536*i))<=549755813888:=by have h1:=yR me.out (min T (65536*i)) (Nat.min_le_left _ _);have h2:Nat.gcd x y<=x:=GO HX.out.1 (yx x y);exact j3 (eZ (j3 h1 h2)) HX.out.2
     have HSH:Hid (∀V,Calls Tryz.prog 159 #[.agg #[.int .u64 (lo (G*2^min T (65536*i)):Nat),.string (hi (G*2^min T (65536*i)))],.int .i64 r] V (cg (.agg #[.int .u64 (lo (G*2^min T (65536*(i+1))):Nat),.string (hi (G*2^min T (65536*(i+1))))]) V)):=aad λV=>by have h:=O5 (G*2^min T (65536*i)) r YS (by omega) V;rw[Ji hTi hr] at h;exact h
     have kr:=hb.out.cell 0
     have cU:=hb.out.cell 1
     simp only[ye,Gh] at kr cU
     have uM:Hid ((r:Int)=min ((T:Int)-65536*i) 65536):=aad (by omega)
     have uH:r<=65536:=by omega
     clear YS hr hTi
     generalize lo (G*2^min T (65536*i))=l1 at *
     generalize hi (G*2^min T (65536*i))=s1 at *
     generalize pX:lo (G*2^min T (65536*(i+1)))=l2 at *
     generalize jO:hi (G*2^min T (65536*(i+1)))=s2 at *
     have mO:=aad (And.intro pX jO)
     clear pX jO
     go_wp2_with fail
     refine(HSH.out _).mono ?_
     rintro e ZD ⟨rfl,Ve⟩
     have Fh:=aad (hb.out.ext Ve)
     have M8:=aad (hx.out.trans Ve)
     have c0:ZD.cell? ⟨g9,0,none⟩=some (.int .u64 l1):=Fh.out.cell 0
     have c1':ZD.cell? ⟨g9,1,none⟩=some (.string s1):=Fh.out.cell 1
     have f0:ZD.frozen? ⟨g9,0,none⟩=false:=Fh.out.frozen 0
     have f1:ZD.frozen? ⟨g9,1,none⟩=false:=Fh.out.frozen 1
     clear hb hx kr cU Ve U6
     go_wp2
     go_roundw
     case rel=>
      refine⟨i+1,z-65536,by go_num,by omega,by omega,aad (by have:=hz.out;omega),aad ?_,aad ?_⟩
      ·rw[mO.out.1,mO.out.2]
       exact(Fh.out.set 0 _).set 1 _
      ·exact(Below.setCell M8.out (p:=⟨g9,0,none⟩) aaR.out _).setCell (p:=⟨g9,1,none⟩) aaR.out _
     case measure=>simp[intOf];omega
    ·have E9:G*2^min T (65536*i)=Nat.gcd x y:=by
      have:=hz.out;rw[pw (by omega)];exact me.out
     have IP:=hb.out
     rw[E9,HLG.out,HSG.out] at IP
     have kr:wr.cell? ⟨g9,0,none⟩=some (.int .u64 lg):=IP.cell 0
     have cU:wr.cell? ⟨g9,1,none⟩=some (.string sg'):=IP.cell 1
     have bx:=HR.out.ext hx.out
     have r0:wr.cell? ⟨w.heap.size+1+1,0,none⟩=some (.int .u64 0):=bx.cell 0
     have r1:wr.cell? ⟨w.heap.size+1+1,1,none⟩=some (.string ⟨#[]⟩):=bx.cell 1
     have q0:wr.frozen? ⟨w.heap.size+1+1,0,none⟩=false:=bx.frozen 0
     have q1:wr.frozen? ⟨w.heap.size+1+1,1,none⟩=false:=bx.frozen 1
     have HXX:=aad (iX.out.trans hx.out)
     have Bu:=aad bx
     clear hb hx IP E9 bx
     go_wp2
     refine fY (w.heap.size+1+1) _ _ rfl rfl ((Bu.out.set 0 _).set 1 _) rfl ⟨rfl,?_⟩
     exact(Below.setCell HXX.out (p:=⟨w.heap.size+1+1,0,none⟩) (by show _<=_;simp;omega) _).setCell (p:=⟨w.heap.size+1+1,1,none⟩) (by show _<=_;simp;omega) _
  ·rw[dB iL] at zN
   have U9:Hid (∀V,Ext wr V->Calls Tryz.prog 157 #[.slice (some ⟨g5,f5,none⟩) l5 e5,.slice (some ⟨g6,f6,none⟩) l6 e6] V λe w'=>∃v',e = .returned v'/\OW ga (af aa (a-b)) v' w'/\bS ga V w'):=aad λV hV=>oZ ga gb a b _ _ V (hI.oa.ext hV) (hI.ob.ext hV) hI.ne.symm ko (Ab iL)
   have HF:Hid (∀V v',OW ga (af aa (od (a-b))) v' V->bS ga wr V->Ff W.heap.size W G m (od (a-b)+b) (od (a-b)) b ga gb v' (.slice (some ⟨g6,f6,none⟩) l6 e6) V/\od (a-b)+b<gk):=aad λV v' ho hV=>⟨⟨ho,hI.ob.but hV hI.ne.symm,hI.ne,hI.ha,hI.hb,hV.ext hI.ex hI.ha,(iK (by omega)).2,hI.pb,by rw[zF iL hI.pb];exact hI.gcd,j3 (ti _) (by have:=hI.la;omega),hI.lb,bX _⟩,by have:=hI.lk;have:=ti (a-b);omega⟩
   have ks:0<a-b:=by omega
   have hZ:bl (a-b)<=549755813888:=j3 (eZ (by omega)) ko
   have HD:=aad (λV v' ho hV=>U8.out ga (a-b) V v' ks hZ ho hV)
   clear hI ko cX Td Zi iL ks hZ U8
   go_wp2_with fail
   refine(zN.out).mono ?_
   rintro e w5 ⟨rfl,Fg⟩
   have tv:=aad Fg
   clear Fg
   go_wp2_with fail
   refine(U9.out w5 tv.out).mono ?_
   rintro e w6 ⟨v6,rfl,Jl,Va⟩
   have HO6:=aad Jl
   have Vb:Hid (bS ga wr w6):=aad ((bS.aO tv.out).trans Va)
   obtain⟨o7,c7,rfl,_⟩:=Jl.open
   clear Jl Va
   go_wp2_with fail
   refine(HD.out w6 _ HO6.out (Vb.out.ext HI.out.ex HI.out.ha)).mono ?_
   rintro e w7 ⟨v7,rfl,Jm,BM⟩
   have Vc:=aad (HF.out w7 v7 Jm (Vb.out.trans BM))
   obtain⟨o8,c8,rfl,_⟩:=Jm.open
   clear Jm BM
   go_wp2
   go_roundg (od (a-b)+b)
   case measure=>exact Vc.out.2
   case rel=>exact⟨_,_,_,_,_,_,_,_,rfl,rfl,aad ⟨_,_,_,_,Vc.out.1⟩⟩
end Go.Proofs.YtnciifikfkpanaaGreatDoor
namespace Go.Proofs.YtnciifikfkpanaaGreatDoor.eA
structure gn (xs:List Nat) (d k r:Nat) (L:List Nat):Prop where
 len:L.length=xs.length
 bP:aC ae L
 low:L.take k=xs.take k
 lt:r<d
 vl:val ae (xs.drop k)=val ae (L.drop k)*d+r
theorem gn.start {xs:List Nat} {d:Nat} (hd:aC ae xs) (h:0<d):gn xs d xs.length 0 xs:=⟨rfl,hd,rfl,h,by simp⟩
theorem getD_take {L xs:List Nat} {k i:Nat} (h:L.take k=xs.take k) (hi:i<k):L.getD i 0=xs.getD i 0:=by simp only[au];rw[<-tM hi,h,tM hi]
theorem gn.step {xs:List Nat} {d k r:Nat} {L:List Nat} (h:gn xs d (k+1) r L) (hk:k<xs.length) :
  (r*ae+xs.getD k 0)/d<ae/\gn xs d k ((r*ae+xs.getD k 0)%d) (L.set k ((r*ae+xs.getD k 0)/d)):=by
 have rU:0<d:=by have:=h.lt;omega
 have hkl:k<L.length:=by rw[h.len];exact hk
 have hxl:xs.getD k 0<ae:=by rw[<-getD_take h.low (yi k)];exact h.bP.getD (by unfold ae;omega) k
 have hq:(r*ae+xs.getD k 0)/d<ae:=by rw[iZ rU];have:=cM ae h.lt;rw[yg,nP,qU] at this;rw[eM ae];omega
 refine⟨hq,by simpa using h.len,h.bP.set _ hq,?_,pv _ rU,?_⟩
 ·rw[Ga (bX _)]
  have:=Co (List.take k) h.low
  rwa [Az,Az,pw (by omega)] at this
 ·have e1:=cn ae xs k hk
  have e2:=cn ae (L.set k ((r*ae+xs.getD k 0)/d)) k (by simpa using hkl)
  rw[Ch,eb] at e2
  rw[e1,e2,h.vl,<-aP _ _ hk]
  have e3:=tN (r*ae+xs.getD k 0) d
  generalize (r*ae+xs.getD k 0)/d=q at *
  generalize (r*ae+xs.getD k 0)%d=r' at *
  generalize xs.getD k 0=x at *
  generalize val ae (L.drop (k+1))=V at *
  grind
theorem gn.fin {xs:List Nat} {d r:Nat} {L:List Nat} (h:gn xs d 0 r L):val ae L=val ae xs/d/\r=val ae xs%d:=by
 have hv:=h.vl;simp only[CT] at hv;have rU:0<d:=by have:=h.lt;omega
 have:=h.lt;rw[hv];constructor
 ·rw[eM,C6 rU,sD h.lt,qX]
 ·rw[eM,C7,nK h.lt]
def Good (U u v1 v0 g:Nat):Prop:=g<ae/\g*(v1*ae+v0)<=U*ae+u/\(g=ae-1\/U*ae+u<(g+1)*(v1*ae+v0))
structure bA (N V m n j:Nat) (L Q:List Nat):Prop where
 mr:L.length=m+n
 oR:Q.length=m
 ik:aC ae L
 Er:aC ae Q
 eq:N=val ae Q*V+val ae L
 lt:val ae L<V*ae^j
 low:∀t,t<j->Q.getD t 0=0
theorem bA.start {m n V:Nat} {L:List Nat} (hl:L.length=m+n) (hd:aC ae L) (h:val ae L<V*ae^m):bA (val ae L) V m n m L (List.replicate m 0):=⟨hl,by simp,hd,aC.rep (by unfold ae;omega) _,by rw[fX];simp,h,λt _=>kH _ t⟩
structure cS (L0 Vs:List Nat) (j g i c b:Nat) (L:List Nat):Prop where
 len:L.length=L0.length
 bP:aC ae L
 vl:val ae L+g*val ae (Vs.take i)*ae^j=val ae L0+(c+b)*ae^(j+i)
 rest:∀t,j+i<=t->L.getD t 0=L0.getD t 0
theorem cS.start {L0 Vs:List Nat} (j g:Nat) (hd:aC ae L0):cS L0 Vs j g 0 0 0 L0:=⟨rfl,hd,by simp,λ_ _=>rfl⟩
theorem tg {VL oQ Uc I J u u' g T v c b c' b' B:Nat} (hv:VL+g*T*J=Uc+(c+b)*(J*I)) (k:oQ+J*I*u=VL+J*I*u') (e:u'+g*v+(c+b)=u+B*(c'+b')) :
  oQ+g*(T+I*v)*J=Uc+(c'+b')*(J*I*B):=by
 have e2:J*I*u'+J*I*g*v+J*I*(c+b)=J*I*u+J*I*B*(c'+b'):=by
  have:J*I*(u'+g*v+(c+b))=J*I*(u+B*(c'+b')):=by rw[e]
  grind
 clear e
 grind
theorem cS.step {L0 Vs:List Nat} {j g i c b:Nat} {L:List Nat} (h:cS L0 Vs j g i c b L) (hl:j+i<L0.length) {hi lo s c1 u' b':Nat} (hu:u'<ae)
  (e1:lo+ae*hi=g*Vs.getD i 0) (e2:s+ae*c1=lo+c) (e3:L.getD (j+i) 0+ae*b'=s+b+u'):cS L0 Vs j g (i+1) (hi+c1) b' (L.set (j+i) u'):=by
 have hlen:=h.len
 have fk:j+i<L.length:=by omega
 have v:=df ae L (j+i) u' fk
 rw[<-aP _ _ fk] at v
 refine⟨by simpa using hlen,h.bP.set _ hu,?_,λt ht=>?_⟩
 ·have hv:=h.vl
  rw[aD ae Vs,<-yf,jV]
  have e0:ae^(j+i)=ae^j*ae^i:=po _ _ _
  rw[e0] at v hv ⊢
  refine tg hv v ?_
  grind
 ·rw[b8 _ _ _ _ fk,dw (by omega)]
  exact h.rest t (by omega)
structure nv (L0:List Nat) (V j n g b:Nat) (L:List Nat):Prop where
 len:L.length=L0.length
 bP:aC ae L
 vl:val ae L+g*V*ae^j=val ae L0+b*ae^(j+n+1)
 rest:∀t,j+n+1<=t->L.getD t 0=L0.getD t 0
theorem cS.close {L0 Vs:List Nat} {j g c b:Nat} {L:List Nat} (h:cS L0 Vs j g Vs.length c b L) (hl:j+Vs.length<L0.length) {u' b':Nat} (hu:u'<ae)
  (e:L.getD (j+Vs.length) 0+ae*b'=c+b+u'):nv L0 (val ae Vs) j Vs.length g b' (L.set (j+Vs.length) u'):=by
 have hlen:=h.len
 have fk:j+Vs.length<L.length:=by omega
 have v:=df ae L (j+Vs.length) u' fk
 rw[<-aP _ _ fk] at v
 refine⟨by simpa using hlen,h.bP.set _ hu,?_,λt ht=>?_⟩
 ·have hv:=h.vl
  rw[qY] at hv
  rw[jV]
  generalize ae^(j+Vs.length)=K at *
  generalize L.getD (j+Vs.length) 0=u at *
  generalize val ae (L.set (j+Vs.length) u')=oQ at *
  have e2:K*u+K*ae*b'=K*(c+b)+K*u':=by
   have:K*(u+ae*b')=K*(c+b+u'):=by rw[e]
   grind
  grind
 ·rw[b8 _ _ _ _ fk,dw (by omega)]
  exact h.rest t (by omega)
structure dt (L0 Vs:List Nat) (j i c:Nat) (L:List Nat):Prop where
 len:L.length=L0.length
 bP:aC ae L
 vl:val ae L+c*ae^(j+i)=val ae L0+val ae (Vs.take i)*ae^j
 rest:∀t,j+i<=t->L.getD t 0=L0.getD t 0
theorem dt.start {L0 Vs:List Nat} (j:Nat) (hd:aC ae L0):dt L0 Vs j 0 0 L0:=⟨rfl,hd,by simp,λ_ _=>rfl⟩
theorem dt.step {L0 Vs:List Nat} {j i c:Nat} {L:List Nat} (h:dt L0 Vs j i c L) (hl:j+i<L0.length) {u' c':Nat} (hu:u'<ae)
  (e:u'+ae*c'=L.getD (j+i) 0+Vs.getD i 0+c):dt L0 Vs j (i+1) c' (L.set (j+i) u'):=by
 have hlen:=h.len
 have fk:j+i<L.length:=by omega
 have v:=df ae L (j+i) u' fk
 rw[<-aP _ _ fk] at v
 refine⟨by simpa using hlen,h.bP.set _ hu,?_,λt ht=>?_⟩
 ·have hv:=h.vl
  rw[aD ae Vs,<-yf,jV]
  have e0:ae^(j+i)=ae^j*ae^i:=po _ _ _
  rw[e0] at v hv ⊢
  generalize ae^j=J at *
  generalize ae^i=I at *
  generalize L.getD (j+i) 0=u at *
  generalize Vs.getD i 0=x at *
  generalize val ae (L.set (j+i) u')=oQ at *
  have e2:J*I*u'+J*I*ae*c'=J*I*u+J*I*x+J*I*c:=by
   have:J*I*(u'+ae*c')=J*I*(u+x+c):=by rw[e]
   grind
  grind
 ·rw[b8 _ _ _ _ fk,dw (by omega)]
  exact h.rest t (by omega)
theorem dt.close {L0 Vs:List Nat} {j c:Nat} {L:List Nat} (h:dt L0 Vs j Vs.length c L) (hl:j+Vs.length<L0.length) :
  ∃d,aC ae (L.set (j+Vs.length) ((L.getD (j+Vs.length) 0+c)%ae))/\(L.set (j+Vs.length) ((L.getD (j+Vs.length) 0+c)%ae)).length=L0.length /\
   val ae (L.set (j+Vs.length) ((L.getD (j+Vs.length) 0+c)%ae))+d*ae^(j+Vs.length+1)=val ae L0+val ae Vs*ae^j /\
   ∀t,j+Vs.length+1<=t->(L.set (j+Vs.length) ((L.getD (j+Vs.length) 0+c)%ae)).getD t 0=L0.getD t 0:=by
 have hlen:=h.len
 have fk:j+Vs.length<L.length:=by omega
 have v:=df ae L (j+Vs.length) ((L.getD (j+Vs.length) 0+c)%ae) fk
 rw[<-aP _ _ fk] at v
 have hu:(L.getD (j+Vs.length) 0+c)%ae<ae:=pv _ (by unfold ae;omega)
 have e:=yc (L.getD (j+Vs.length) 0+c) ae
 refine⟨(L.getD (j+Vs.length) 0+c)/ae,h.bP.set _ hu,by simpa using hlen,?_,λt ht=>?_⟩
 ·have hv:=h.vl
  rw[qY] at hv
  rw[jV]
  generalize (L.getD (j+Vs.length) 0+c)/ae=d at *
  generalize (L.getD (j+Vs.length) 0+c)%ae=u' at *
  generalize ae^(j+Vs.length)=K at *
  generalize L.getD (j+Vs.length) 0=u at *
  generalize val ae (L.set (j+Vs.length) u')=oQ at *
  have e2:K*u'+K*ae*d=K*u+K*c:=by
   have:K*(u'+ae*d)=K*(u+c):=by rw[e]
   grind
  grind
 ·rw[b8 _ _ _ _ fk,dw (by omega)]
  exact h.rest t (by omega)
theorem l7 {T:Nat} (h:T<ae^3):T=(T/ae/ae%ae*ae+T/ae%ae)*ae+T%ae:=by
 have h1:T/ae/ae<ae:=by
  rw[pM,iZ (by unfold ae;omega)];have:ae^3=ae*(ae*ae):=by rw[jV,jV,Kv,eM]
  omega
 rw[nK h1];have e1:=tN T ae;have e2:=tN (T/ae) ae;rw[eM] at e1 e2;rw[e2,e1]
theorem bA.IG {N m n j:Nat} {L Q Vs:List Nat} (h:bA N (val ae Vs) m n (j+1) L Q) (hn:Vs.length=n) (h2:2<=n) (hd:aC ae Vs) (ht:Vs.getD (n-1) 0≠0) :
  L.getD (j+n) 0<=Vs.getD (n-1) 0/\∀g,Good (L.getD (j+n) 0*ae+L.getD (j+n-1) 0) (L.getD (j+n-2) 0) (Vs.getD (n-1) 0) (Vs.getD (n-2) 0) g ->
   val ae L/ae^j/val ae Vs<=g/\g<=val ae L/ae^j/val ae Vs+1:=by
 have hB:=aE
 have Es:=cl hd
 rw[hn] at Es
 obtain⟨k,rfl⟩:∃k,n=k+2:=⟨n-2,by omega⟩
 have aU:=h.lt
 have IH:=cZ hB (j+k+2) h.ik
 have II:=cZ hB (j+k+1) h.ik
 have Ud:=cZ hB (j+k) h.ik
 have IJ:=cZ hB (k+1) hd
 have Ue:=cZ hB k hd
 rw[show j+(k+2)=j+k+2 from by omega,show j+k+2-1=j+k+1 from by omega,show j+k+2-2=j+k from by omega,show k+2-1=k+1 from by omega,show k+2-2=k from by omega]
 rw[show k+2-1=k+1 from by omega] at ht
 have hP:0<ae^k:=lN (by unfold ae;omega)
 have hJ:0<ae^j:=lN (by unfold ae;omega)
 generalize hV:val ae Vs=V at *
 generalize hl:val ae L=l at *
 have yH:l/ae^(j+k+1)=l/ae^(j+k)/ae:=by rw[jV,pM]
 have hT2:l/ae^(j+k+2)=l/ae^(j+k)/ae/ae:=by rw[jV,<-pM,yH]
 have hTD:l/ae^(j+k)=l/ae^j/ae^k:=by rw[po,pM]
 have hV1:V/ae^(k+1)=V/ae^k/ae:=by rw[jV,pM]
 have Et:l/ae^j<V*ae:=by
  rw[iZ hJ];rw[jV] at aU;calc l<V*(ae^j*ae):=aU
   _=V*ae*ae^j:=by rw[ky,eM ae]
 rw[hT2] at IH
 rw[yH] at II
 rw[hTD] at IH II Ud
 rw[hV1] at IJ
 generalize l/ae^j=D at *
 have hW3:V/ae^k<ae*ae:=by
  rw[iZ hP];calc V<ae^(k+2):=Es
   _=ae*ae*ae^k:=by rw[jV,jV,ky,eM]
 have hT3:D/ae^k<ae^3:=by
  rw[iZ hP];have h1:V*ae<=ae^(k+2)*ae:=cM _ (by omega);have h2:ae^(k+2)*ae=ae^3*ae^k:=by rw[<-jV,<-po];congr 1;omega
  omega
 have eT:=l7 hT3
 have eW:V/ae^k=V/ae^k/ae*ae+V/ae^k%ae:=by rw[eM];exact(tN _ _).symm
 have hW1:V/ae^k/ae<ae:=by rw[iZ (by unfold ae;omega)];exact hW3
 rw[nK hW1] at IJ
 rw[<-IH,<-II,<-Ud] at eT
 rw[<-IJ,<-Ue] at eW
 have IK:=tN D (ae^k)
 have Uf:=tN V (ae^k)
 have hDm:=pv D hP
 have hVm:=pv V hP
 rw[eM] at IK Uf
 generalize L.getD (j+k+2) 0=u2 at *
 generalize L.getD (j+k+1) 0=u1 at *
 generalize L.getD (j+k) 0=u0 at *
 generalize Vs.getD (k+1) 0=v1 at *
 generalize Vs.getD k 0=v0 at *
 have Ds:v0<ae:=by rw[Ue];exact pv _ (by unfold ae;omega)
 rw[eT] at IK
 rw[eW] at Uf
 constructor
 ·rcases aV v1 u2 with hc | hc
  ·exfalso
   have a1:(v1+1)*ae<=u2*ae:=cM _ hc
   have a2:(v1+1)*ae*ae<=((u2*ae+u1)*ae+u0):=by have:=cM ae (show(v1+1)*ae<=u2*ae+u1 by omega);omega
   have a3:=cM (ae^k) a2
   have a4:v1*ae+v0+1<=(v1+1)*ae:=by rw[nP,qU];omega
   have a5:=cM (ae^k) a4
   have a6:(v1*ae+v0+1)*ae^k=(v1*ae+v0)*ae^k+ae^k:=by rw[nP,qU]
   have a7:V<(v1+1)*ae*ae^k:=by omega
   have a8:V*ae<=(v1+1)*ae*ae^k*ae:=cM _ (by omega)
   have a9:(v1+1)*ae*ae*ae^k=(v1+1)*ae*ae^k*ae:=G4 _ _ _
   rw[<-a9] at a8
   have b1:((u2*ae+u1)*ae+u0)*ae^k<=D:=by rw[<-IK];exact F3 _ _
   exact absurd Et (Nat.not_lt.2 (j3 a8 (j3 a3 b1)))
  ·exact hc
 ·rintro g ⟨ki,uI,hg3⟩
  refine rm (B:=ae) (V3:=v1*ae+v0) (U3:=(u2*ae+u1)*ae+u0) (Vr:=V%ae^k) (Ur:=D%ae^k) (P:=ae^k) (by omega) hVm (by omega) hDm Et ?_ uI ki hg3
  have:1*ae<=v1*ae:=cM _ (by omega)
  omega
theorem gZ {L:List Nat} {k:Nat} (hd:aC ae L) (h:∀t,k<=t->L.getD t 0=0):val ae L<ae^k:=by
 have e:val ae L=val ae (L.take k):=by
  rcases aV k L.length with hk | hk
  ·have e1:=dG ae L k (by omega);have e2:L.drop k=List.replicate (L.length-k) 0:=by
    apply Ho (by simp);intro i h1 h2;rw[List.getElem_drop,List.getElem_replicate,<-aP _ _ (by simp at h1;omega)];exact h _ (by omega)
   rw[e2,fX] at e1;simpa using e1
  ·rw[jo hk]
 rw[e];have:=cl (hd.take k);exact dz this (iS (by unfold ae;omega) (by rw[iY];omega))
theorem qK {L:List Nat} {k t:Nat} (hd:aC ae L) (h:val ae L<ae^k) (ht:k<=t):L.getD t 0=0:=by rw[cZ aE t hd,sD (dz h (iS (by unfold ae;omega) ht))];rfl
theorem bA.top {N V m n j:Nat} {L Q:List Nat} (h:bA N V m n (j+1) L Q) (hV:V<ae^n) {t:Nat} (ht:j+n+1<=t):L.getD t 0=0:=by refine qK h.ik (k:=j+n+1) ?_ ht;have h1:=h.lt;have h2:V*ae^(j+1)<=ae^n*ae^(j+1):=cM _ (by omega);rw[<-po,show n+(j+1)=j+n+1 from by omega] at h2;omega
theorem bA.next {N V m n j q:Nat} {L L' Q:List Nat} (h:bA N V m n (j+1) L Q) (hj:j<m) (hq:q=val ae L/ae^j/V) (jP:0<V) (Yi:q<ae) (hl:L'.length=L.length) (hd:aC ae L')
  (he:val ae L'+q*V*ae^j=val ae L):bA N V m n j L' (Q.set j q):=by
 have IL:j<Q.length:=by rw[h.oR];exact hj
 have v:=df ae Q j q IL
 rw[<-aP _ _ IL,h.low j (by omega)] at v
 have hJ:0<ae^j:=lN (by unfold ae;omega)
 refine⟨hl.trans h.mr,by simpa using h.oR,hd,h.Er.set _ Yi,?_,?_,λt ht=>?_⟩
 ·rw[h.eq,<-he]
  have v':val ae (Q.set j q)=val ae Q+ae^j*q:=by omega
  rw[v']
  grind
 ·have h1:=Ci jP (a:=val ae L/ae^j)
  have h2:=Ci hJ (a:=val ae L)
  rw[<-hq] at h1
  generalize val ae L/ae^j=D at *
  have h3:(D+1)*ae^j<=(q*V+V)*ae^j:=cM _ h1
  rw[nP,nP,qU] at h3
  omega
 ·rw[b8 _ _ _ _ IL,dw (by omega)]
  exact h.low t (by omega)
theorem oS {V j l:Nat} (h:l<V*ae^(j+1)) (jP:0<V):l/ae^j/V<ae:=by
 have hJ:0<ae^j:=lN (by unfold ae;omega);rw[iZ jP,iZ hJ];rw[jV] at h;have:V*(ae^j*ae)=ae*V*ae^j:=by rw[eM (ae^j),<-ky,eM V]
 omega
theorem bA.wS {N V m n j g:Nat} {L L' Q:List Nat} (h:bA N V m n (j+1) L Q) (hj:j<m) (jP:0<V) (hg:val ae L/ae^j/V<=g/\g<=val ae L/ae^j/V+1) (hm:nv L V j n g 0 L') :
  g<ae/\bA N V m n j L' (Q.set j g):=by
 have he:=hm.vl
 rw[xY,qX] at he
 have hJ:0<ae^j:=lN (by unfold ae;omega)
 have wT:g=val ae L/ae^j/V:=by
  have h1:g<=val ae L/ae^j/V:=by rw[sC jP,sC hJ];omega
  omega
 have hb:=oS h.lt jP
 rw[<-wT] at hb
 exact⟨hb,h.next hj wT jP hb hm.len hm.bP he⟩
theorem bA.wU {N V m n j g d:Nat} {L L' th Q:List Nat} (h:bA N V m n (j+1) L Q) (hj:j<m) (jP:0<V) (hV:V<ae^n) (hg:val ae L/ae^j/V<=g/\g<=val ae L/ae^j/V+1) (hm:nv L V j n g 1 L')
  (hd:aC ae th) (hl:th.length=L'.length) (jk:val ae th+d*ae^(j+n+1)=val ae L'+V*ae^j) (hr:∀t,j+n+1<=t->th.getD t 0=L'.getD t 0) :
  1<=g/\g-1<ae/\bA N V m n j th (Q.set j (g-1)):=by
 have he:=hm.vl
 rw[qU] at he
 have hJ:0<ae^j:=lN (by unfold ae;omega)
 have Bn:val ae L'<ae^(j+n+1):=gZ hm.bP (λt ht=>by rw[hm.rest t ht];exact h.top hV ht)
 have ad8:val ae th<ae^(j+n+1):=gZ hd (λt ht=>by rw[hr t ht,hm.rest t ht];exact h.top hV ht)
 have hb:=oS h.lt jP
 have wT:g=val ae L/ae^j/V+1:=by
  rcases aV (val ae L/ae^j/V) g with h1 | h1
  ·omega
  ·exfalso;have h2:g<=val ae L/ae^j/V:=h1;rw[sC jP,sC hJ] at h2;omega
 obtain⟨q,hq⟩:∃q,q=val ae L/ae^j/V:=⟨_,rfl⟩
 rw[<-hq] at wT hb
 subst wT
 rw[pK]
 have e1:(q+1)*V*ae^j=q*V*ae^j+V*ae^j:=by rw[nP,qU,nP]
 have hle:q*V*ae^j<=val ae L:=by have h1:q<=val ae L/ae^j/V:=Hu hq;rwa [sC jP,sC hJ] at h1
 have kZ:d=1:=by
  rcases aV d 1 with h1 | h1
  ·obtain rfl:d=0:=by omega
   omega
  ·rcases aV 1 d with h2 | h2
   ·exfalso;have h3:2*ae^(j+n+1)<=d*ae^(j+n+1):=cM _ h2;have h4:V*ae^j<=ae^n*ae^j:=cM _ (by omega);rw[<-po,Aa n] at h4;have h5:ae^(j+n)<=ae^(j+n+1):=iS (by unfold ae;omega) (by omega);omega
   ·omega
 subst kZ
 exact⟨by omega,hb,h.next hj hq jP hb (hl.trans hm.len) hd (by omega)⟩
theorem bA.fin {N V m n:Nat} {L Q:List Nat} (h:bA N V m n 0 L Q):val ae Q=N/V/\val ae L=N%V:=by
 have hl:=h.lt;rw[C8,uB] at hl;have hp:0<V:=by omega
 rw[h.eq,eM];constructor
 ·rw[C6 hp,sD hl,qX]
 ·rw[C7,nK hl]
theorem r9 {ys:List Nat} {n:Nat} (hn:ys.length=n+1):ae^n*ys.getD n 0<=val ae ys:=by have h:=aD ae ys n;rw[jo (by omega)] at h;omega
theorem xu {ys zs:List Nat} {s n:Nat} (hn:ys.length=n+1) (uR:aC ae ys) (hl:zs.length=n+2) (Zp:aC ae zs) (hv:val ae zs=val ae ys*2^s) (hs:s+bl (ys.getD n 0)=32) (ht:ys.getD n 0≠0) :
  val ae (zs.take (n+1))=val ae ys*2^s/\(zs.take (n+1)).getD n 0≠0/\val ae ys*2^s<ae^(n+1)/\0<val ae ys*2^s:=by
 have hP:0<ae^n:=lN (by unfold ae;omega)
 have h0:=aD ae ys n
 rw[jo (by omega)] at h0
 have h1:=cl (uR.take n)
 rw[iY,pw (by omega)] at h1
 have h2:=gL (ys.getD n 0)
 have y6:=r9 hn
 generalize ys.getD n 0=t at *
 have h3:val ae ys<ae^n*2^bl t:=by have:ae^n*(t+1)<=ae^n*2^bl t:=eJ _ h2;rw[sA,uB] at this;omega
 have h4:val ae ys*2^s<ae^(n+1):=by have jO:0<2^s:=lN (by omega);have:=x5 h3 jO;rw[ky,<-po,show bl t+s=32 from by omega] at this;exact this
 have h5:ae^n<=val ae ys*2^s:=by have a1:ae^n*1<=ae^n*t:=eJ _ (by omega);have a2:val ae ys*1<=val ae ys*2^s:=eJ _ (lN (by omega));omega
 have h6:=aD ae zs (n+1)
 rw[jo (by omega),hv] at h6
 have h7:zs.getD (n+1) 0=0:=by
  rcases gA (zs.getD (n+1) 0) with h | h
  ·exact h
  ·have:ae^(n+1)*1<=ae^(n+1)*zs.getD (n+1) 0:=eJ _ h;omega
 rw[h7,Ai,qX] at h6
 refine⟨h6.symm,λh8=>?_,h4,by omega⟩
 have h9:=aD ae (zs.take (n+1)) n
 rw[Az,pw (by omega),Az,pw (by omega),h8,Ai,qX,<-h6] at h9
 have D4:=cl (Zp.take n)
 rw[iY,pw (by omega)] at D4
 omega
theorem zM {xs ys:List Nat} {s m n:Nat} (hn:ys.length=n+1) (hx:xs.length=m+n) (yG:aC ae xs) (ht:ys.getD n 0≠0):val ae xs*2^s<val ae ys*2^s*ae^m:=by
 have h1:=cl yG;rw[hx,po] at h1;have h2:=r9 hn;have h3:ae^n*1<=ae^n*ys.getD n 0:=eJ _ (by omega);have h4:ae^m*ae^n<=val ae ys*ae^m:=by rw[eM (ae^m)];exact cM _ (by omega)
 have h5:val ae xs<val ae ys*ae^m:=by omega
 have jO:0<2^s:=lN (by omega);have h6:=x5 h5 jO;rw[ky,eM (ae^m),<-ky] at h6;exact h6
theorem xw (X Y s:Nat):X*2^s/(Y*2^s)=X/Y:=Nat.mul_div_mul_right X Y (lN (by omega))
theorem BH (X Y s:Nat):X*2^s%(Y*2^s)/2^s=X%Y:=by rw[Nat.mul_mod_mul_right,Nat.mul_div_cancel _ (lN (by omega))]
theorem qe {L:List Nat} {n:Nat} (hn:n<=L.length) (h:val ae L<ae^n):val ae (L.take n)=val ae L:=by
 have h1:=dG ae L n hn;rcases gA (val ae (L.drop n)) with h2 | h2
 ·rw[h2,Ai,qX] at h1;exact h1.symm
 ·have:ae^n*1<=ae^n*val ae (L.drop n):=eJ _ h2;omega
theorem bA.pos {N V m n j g:Nat} {L L' Q:List Nat} (h:bA N V m n (j+1) L Q) (hV:V<ae^n) (hm:nv L V j n g 1 L'):1<=g:=by
 have he:=hm.vl;have Bn:val ae L'<ae^(j+n+1):=gZ hm.bP (λt ht=>by rw[hm.rest t ht];exact h.top hV ht);rcases gA g with h0 | h0
 ·subst h0;rw[xY,xY,qU,qX] at he;omega
 ·exact h0
structure Gr (U u y1 y0 g r:Nat):Prop where
 eq:U=g*y1+r
 top:g+1<ae->U*ae+u<(g+1)*(y1*ae+y0)
 rlt:r<ae
theorem Gr.start {U u y1 y0:Nat} (hy:0<y1) (T6:y1<ae) (hu:u<ae):Gr U u y1 y0 (U/y1) (U%y1):=by
 refine⟨by rw[eM];exact(tN U y1).symm,λ_=>?_,Gc (pv _ hy) T6⟩;have h1:U+1<=(U/y1+1)*y1:=by have:=Ci hy (a:=U);rw[nP,qU];omega
 have h2:(U+1)*ae<=(U/y1+1)*y1*ae:=cM _ h1;have h3:(U/y1+1)*(y1*ae+y0)=(U/y1+1)*y1*ae+(U/y1+1)*y0:=by rw[sA,ky]
 rw[nP,qU] at h2;omega
theorem tx {U u y1 y0 g r:Nat} (e:U=g*y1+r):U*ae+u<g*(y1*ae+y0)↔r*ae+u<g*y0:=by
 have:g*(y1*ae+y0)=g*y1*ae+g*y0:=by rw[sA,ky]
 rw[this,e,nP];omega
theorem Gr.done {U u y1 y0 g r:Nat} (h:Gr U u y1 y0 g r) (hg:g<ae) (ht:g*y0<=r*ae+u):Good U u y1 y0 g:=by
 refine⟨hg,?_,?_⟩
 ·rcases aV (U*ae+u) (g*(y1*ae+y0)) with h' | h'
  ·have:=(tx h.eq).1 h';omega
  ·exact h'
 ·rcases aV (g+1) ae with h' | h'
  ·exact .inr (h.top h')
  ·exact .inl (by omega)
theorem Gr.next {U u y1 y0 g r:Nat} (h:Gr U u y1 y0 g r) (ht:ae<=g\/r*ae+u<g*y0):1<=g/\U=(g-1)*y1+(r+y1)/\(g-1+1<ae->U*ae+u<(g-1+1)*(y1*ae+y0)):=by
 have h1:1<=g:=by
  rcases ht with h' | h'
  ·unfold ae at h';omega
  ·rcases gA g with h0 | h0
   ·rw[h0,xY] at h';omega
   ·exact h0
 obtain⟨k,rfl⟩:∃k,g=k+1:=⟨g-1,by omega⟩
 rw[pK];refine⟨h1,?_,λhk=>?_⟩
 ·have:=h.eq;rw[nP,qU] at this;omega
 ·rcases ht with h' | h'
  ·omega
  ·exact(tx h.eq).2 h'
theorem Gr.go {U u y1 y0 g r:Nat} (h:Gr U u y1 y0 g r) (ht:ae<=g\/r*ae+u<g*y0) (hr:r+y1<ae):Gr U u y1 y0 (g-1) (r+y1):=by obtain⟨_,h2,h3⟩:=h.next ht;exact⟨h2,h3,hr⟩
theorem Gr.over {U u y1 y0 g r:Nat} (h:Gr U u y1 y0 g r) (ht:ae<=g\/r*ae+u<g*y0) (hr:ae<=r+y1) (hU:U<(y1+1)*ae) (jE:y0<ae):Good U u y1 y0 (g-1):=by
 obtain⟨h1,h2,h3⟩:=h.next ht;generalize g-1=k at *
 have hk:k<ae:=by
  rcases aV k ae with h' | h'
  ·exact h'
  ·exfalso;have:ae*y1<=k*y1:=cM _ h';rw[nP,qU,eM] at hU;omega
 refine⟨hk,?_,?_⟩
 ·rcases aV (U*ae+u) (k*(y1*ae+y0)) with h' | h'
  ·have h4:=(tx h2).1 h';have h5:k*y0<=(ae-1)*(ae-1):=x6 (by omega) (by omega);have h6:ae*ae<=(r+y1)*ae:=cM _ hr;have h7:(ae-1)*(ae-1)<ae*ae:=by unfold ae;decide
   omega
  ·exact h'
 ·rcases aV (k+1) ae with h' | h'
  ·exact .inr (h3 h')
  ·exact .inl (by omega)
theorem cS.step1 {L0 Vs:List Nat} {j g i c b:Nat} {L:List Nat} (h:cS L0 Vs j g i c b L) (hl:j+i<L0.length) {u' b':Nat} (hu:u'<ae)
  (e:L.getD (j+i) 0+ae*b'=(c+g*Vs.getD i 0)%ae+b+u'):cS L0 Vs j g (i+1) ((c+g*Vs.getD i 0)/ae) b' (L.set (j+i) u'):=by
 have hs:=h.step hl hu (lo:=g*Vs.getD i 0%ae) (hi:=g*Vs.getD i 0/ae) (s:=(c+g*Vs.getD i 0)%ae) (c1:=(g*Vs.getD i 0%ae+c)/ae) (b':=b') (yc _ _) (by
  have h1:(c+g*Vs.getD i 0)%ae=(g*Vs.getD i 0%ae+c)%ae:=by rw[Aa c,Nat.mod_add_mod]
  rw[h1];exact yc _ _) e
 have h2:(c+g*Vs.getD i 0)/ae=g*Vs.getD i 0/ae+(g*Vs.getD i 0%ae+c)/ae:=by generalize g*Vs.getD i 0=t;unfold ae;omega
 rw[h2]
 exact hs
theorem tz {g v c:Nat} (hg:g<ae) (hv:v<ae) (hc:c<ae):c+g*v<18446744073709551616/\(c+g*v)/ae<ae:=by
 have h1:g*v<=4294967295*4294967295:=x6 (by unfold ae at hg;omega) (by unfold ae at hv;omega);generalize g*v=t at *
 unfold ae at *
 omega
theorem M9 {b s:Nat} (hb:b≠0):bl (b*2^s)=bl b+s:=by have h:=sO (A:=0) (s:=s) (t:=b) (lN (by omega)) hb;rw[kJ,eM] at h;omega
structure Norm (b n s:Nat):Prop where
 len:(af ae (b*2^s)).length=n+1
 top:(af ae (b*2^s)).getD n 0≠0
 half:ae<=2*(af ae (b*2^s)).getD n 0
 lt:b*2^s<ae^(n+1)
 pos:0<b*2^s
 ge:ae^n<=b*2^s
theorem Vf {b n s:Nat} (hb:b≠0) (hs:bl b+s=32*(n+1)):Norm b n s:=by
 have Ex:=M9 (s:=s) hb;have hV:b*2^s≠0:=CM (At (tU hb) (lN (by omega)));have aU:b*2^s<ae^(n+1):=by rw[fE];have:=gL (b*2^s);rw[Ex,hs] at this;exact this
 have M6:2^(32*n+31)<=b*2^s:=by have:=lD hV;rw[Ex,hs] at this;rw[show 32*n+31=32*(n+1)-1 from by omega];exact this
 have iU:ae^n<=b*2^s:=j3 (by rw[fE];exact iS (by omega) (by omega)) M6;have hlen:(af ae (b*2^s)).length=n+1:=by
  have h1:=(aJ aE (b*2^s) (n+1)).2 aU;have h2:¬(af ae (b*2^s)).length<=n:=λh=>by have:=(aJ aE (b*2^s) n).1 h;omega
  omega
 have hd:=aL aE (b*2^s);have hv:=amE aE (b*2^s);have Jo:ae<=2*(af ae (b*2^s)).getD n 0:=by
  have h1:=aD ae (af ae (b*2^s)) n;rw[jo (by omega),hv] at h1;have h2:=cl (hd.take n);rw[iY,pw (by omega)] at h2;generalize (af ae (b*2^s)).getD n 0=t at *
  rcases aV (2*t) ae with h | h
  ·exfalso;have h3:ae^n*(2*t+2)<=ae^n*ae:=eJ _ (by unfold ae at *;omega);have h4:2^(32*n+31)*2=ae^n*ae:=by rw[<-jV,<-jV,fE];congr 1<;>omega
   rw[sA] at h3;have h5:ae^n*(2*t)=2*(ae^n*t):=by rw[<-ky,eM (ae^n),ky]
   omega
  ·exact h
 exact⟨hlen,λh0=>by rw[h0] at Jo;unfold ae at Jo;omega,Jo,aU,tU hV,iU⟩
theorem Vg (N:Nat):val ae (af ae N++[0,0])=N:=by rw[jx,amE aE];simp
theorem Vh (N:Nat):aC ae (af ae N++[0,0]):=(aL aE N).append (aC.cons (by unfold ae;omega) (aC.cons (by unfold ae;omega) (aC.nil _)))
theorem ZE {N V n m:Nat} (hm:(af ae N).length+2=m+(n+1)) (hV:ae^n<=V):N<V*ae^m:=by have h1:=cl (aL aE N);rw[amE aE] at h1;have h2:ae^n*ae^m<=V*ae^m:=cM _ hV;rw[<-po] at h2;have h3:ae^(af ae N).length<=ae^(n+m):=iS (by unfold ae;omega) (by omega);omega
theorem Vi {u2 u1 y1:Nat} (h2:u2<=y1) (h1:u1<ae):u2*ae+u1<(y1+1)*ae:=by have:u2*ae<=y1*ae:=cM _ h2;rw[nP,qU];omega
end Go.Proofs.YtnciifikfkpanaaGreatDoor.eA
namespace Go.Proofs.YtnciifikfkpanaaGreatDoor
def Fi (c x p:Nat):Nat:=c+2^p*x
theorem Na {c x p:Nat} (hc:c<2^p) (hx:x<ae):Fi c x p<2^p*ae:=by unfold Fi;have:2^p*(x+1)<=2^p*ae:=eJ _ hx;rw[sA,uB] at this;omega
theorem Jp {c x p:Nat} (hc:c<2^p) (hx:x<ae):Fi c x p/ae<2^p:=by rw[iZ (by unfold ae;omega)];exact Na hc hx
theorem ZF {c x p:Nat} (hc:c<2^p) (hx:x<ae) (hp:p<32):bits .or .u64 (c:Int) (IntKind.u64.wrap ((x:Int)*2^p))=((Fi c x p:Nat):Int):=by rw[rS (by omega) hc];unfold oN Fi;have h1:(2:Nat)^32<=2^(64-p):=iS (by omega) (by omega);rw[nK (dz hx h1)]
structure qf (xs:List Nat) (q p i c:Nat) (L:List Nat):Prop where
 len:L.length=q+i
 bP:aC ae L
 lt:c<2^p
 vl:val ae L+c*ae^(q+i)=val ae (xs.take i)*2^p*ae^q
theorem qf.start (xs:List Nat) (q p:Nat):qf xs q p 0 0 (List.replicate q 0):=⟨by simp,aC.rep (by unfold ae;omega) _,lN (by omega),by rw[fX];simp⟩
theorem Fj {V c Q I X P x b t r d:Nat} (h:V+c*(Q*I)=X*P*Q) (ht:t=c+P*x) (hd:r+b*d=t) :
  V+Q*I*r+d*(Q*I*b)=(X+I*x)*P*Q:=by grind
theorem qf.step {xs:List Nat} {q p i c:Nat} {L:List Nat} (h:qf xs q p i c L) (hd:aC ae xs) :
  qf xs q p (i+1) (Fi c (xs.getD i 0) p/ae) (L++[Fi c (xs.getD i 0) p%ae]):=by
 have hx:=hd.getD (by unfold ae;omega) i
 refine⟨by rw[c6,h.len,yn];omega,h.bP.append (aC.cons (pv _ (by unfold ae;omega)) (aC.nil _)),Jp h.lt hx,?_⟩
 have hv:=h.vl
 rw[mh,h.len,aD,<-yf q i 1,jV,po] at *
 exact Fj hv rfl (yc _ _)
theorem qf.fin {xs:List Nat} {q p c:Nat} {L:List Nat} (h:qf xs q p (xs.length+1) c L) (hd:aC ae xs) (hp:p<32):val ae L=val ae xs*2^(32*q+p):=by
 have hv:=h.vl;rw[jo (by omega)] at hv;have hx:=cl hd;have e:val ae xs*2^(32*q+p)=val ae xs*2^p*ae^q:=by rw[Aa,po,<-fE,ky]
 rw[e];have aU:val ae xs*2^p*ae^q<ae^(q+(xs.length+1)):=by
  have h1:val ae xs*2^p<ae^xs.length*ae:=by have a1:(2:Nat)^p<=ae:=j3 (iS (by omega) (Ab hp)) (bX _);exact dz (x5 hx (lN (by omega))) (eJ _ a1)
  rw[<-jV] at h1;have h2:=x5 h1 (show 0<ae^q from lN (by unfold ae;omega));rw[<-po,Aa] at h2;exact h2
 rcases gA c with h0 | h0
 ·subst h0;simpa using hv
 ·have:1*ae^(q+(xs.length+1))<=c*ae^(q+(xs.length+1)):=cM _ h0;omega
def jH (Z m:Nat):List Nat:=(List.range m).map λi=>Z/ae^i%ae
theorem Jq (Z m:Nat):jH Z (m+1)=jH Z m++[Z/ae^m%ae]:=by unfold jH;rw[GY,CW,List.map_singleton]
theorem se (Z m:Nat):(jH Z m).length=m:=by simp[jH]
theorem Pq (Z m:Nat):aC ae (jH Z m):=by intro x hx;simp only[jH,G3] at hx;obtain⟨i,_,rfl⟩:=hx;exact pv _ (by unfold ae;omega)
theorem zO (Z m:Nat):val ae (jH Z m)=Z%ae^m:=uj ae Z m
theorem BP {xs:List Nat} (hd:aC ae xs) {q p i:Nat} (hp:p<32) :
  (xs.getD (q+i) 0+ae*xs.getD (q+i+1) 0)/2^p%ae=val ae xs/2^(32*q+p)/ae^i%ae:=by
 have e1:=cZ aE (q+i) hd
 have e2:=cZ aE (q+i+1) hd
 have e3:val ae xs/2^(32*q+p)/ae^i=val ae xs/ae^(q+i)/2^p:=by rw[po,<-fE,pM,pM];congr 1;rw[ky,eM (2^p),<-ky,<-po]
 rw[e1,e2,e3,jV,<-pM]
 generalize val ae xs/ae^(q+i)=Y
 have e4:Y%ae+ae*(Y/ae%ae)=Y%(ae*ae):=(Nat.mod_mul).symm
 rw[e4]
 have e5:ae=2^p*2^(32-p):=by rw[<-po,show p+(32-p)=32 from by omega];rfl
 have e6:Y%(ae*ae)/2^p=Y/2^p%(2^(32-p)*ae):=by
  have:ae*ae=2^p*(2^(32-p)*ae):=by rw[<-ky,<-e5]
  rw[this,G1]
 rw[e6,eM (2^(32-p)),Nat.mod_mul_right_mod]
theorem Fk {xs:List Nat} (hd:aC ae xs) {q p:Nat} (hq:q<=xs.length):val ae (jH (val ae xs/2^(32*q+p)) (xs.length-q))=val ae xs/2^(32*q+p):=by
 rw[zO];refine nK ?_;have h1:=cl hd;rw[iZ (lN (by omega)),po,<-fE];have h2:ae^xs.length=ae^(xs.length-q)*ae^q:=by rw[<-po];congr 1;omega
 have h3:ae^(xs.length-q)*ae^q*1<=ae^(xs.length-q)*ae^q*2^p:=eJ _ (lN (by omega));rw[<-ky];omega
theorem BR {xs:List Nat} (hd:aC ae xs) {q p:Nat} (hq:xs.length<=q):val ae xs/2^(32*q+p)=0:=by
 refine sD ?_;have h1:=cl hd;have h2:ae^xs.length<=2^(32*q+p):=by rw[fE];exact iS (by omega) (by omega)
 omega
theorem ac1 {x y:Nat} (hx:x<ae) (hy:y<ae):bits .or .u64 (x:Int) ((y:Int)*4294967296)=((x+ae*y:Nat):Int):=by
 have h1:=rS (o:=x) (x:=y) (p:=32) (by omega) hx;have e:IntKind.u64.wrap ((y:Int)*2^32)=(y:Int)*4294967296:=by rw[IntKind.wrap_u64];unfold ae at hy;omega
 rw[e] at h1;rw[h1];unfold oN;rw[nK (show y<2^(64-32) from hy)];rfl
open Go.RowKit
theorem dK.By {base:Nat} {xs:List Nat} {v:Value} {w:World} (h:w.ownsRow base 184 1 v xs.length (bT xs)):dK xs v w:=by
 obtain⟨hl,h | ⟨g,cap,cur,rfl,hg,hb,hle,zJ,br,uJ⟩⟩:=h
 ·obtain⟨rfl,h0⟩:=h;obtain rfl:=iP h0;exact dK.nil w
 ·refine⟨_,cap,rfl,hle,λ_=>⟨g,0,rfl,?_,λi hi=>?_⟩⟩
  ·rcases aV g w.heap.size with h' | h'
   ·exact h'
   ·rw[Ae h'] at hb;cases hb
  ·rw[kJ,cell_of_row w g i _ _ (0,0) hb];have e:cur[i]? = (cur.toList.take (xs.length*1))[i]?:=by rw[tM (by omega)];simp
   rw[e,uJ,cY _ _ hi]
theorem zP (xs:List Nat) (y:Nat):bT (xs++[y])=bT xs++[.int .u32 (y:Nat)]:=by simp[bT]
theorem pe (a n:Nat) (v:Value) (w:World) (h:bJ a v w) (ha:bl a<=274877906944) (hn:n<=1000000) :
  Calls Tryz.prog 171 #[v,.int .i64 n] w (cA (bJ (a*2^n)) w):=by
 obtain⟨i0,hi,nm,pR,xa⟩:=info_parts jt
 have jh:=cL a 8589934592 (by omega)
 have gJ:=aL aE a
 have HA:Hid (∀(i:Nat) W,i<=8589934593->Ext w W->Calls Tryz.prog 172 #[v,.int .i64 i] W λe w'=>e = .returned (.int .u64 ((af ae a).getD i 0:Nat))/\W=w'):=aad (λi W hi hx=>r6 (af ae a) v i W (dK.ext h hx) gJ (by omega) (by omega))
 have va:=amE aE a
 have HF:Hid (∀W u L cc,qf (af ae a) (n/32) (n%32) ((af ae a).length+1) cc L->W.ownsRow w.heap.size 184 1 u L.length (bT L)->Calls Tryz.prog 130 #[u] W λe w'=>∃v',e = .returned v'/\bJ (a*2^n) v' W/\w'=W):=aad (λW u L cc hL hb=>by have h:=dV (dK.By hb) (by rw[hL.len];omega) hL.bP;rw[hL.fin gJ (by omega),va,show 32*(n/32)+n%32=n from by omega] at h;exact h)
 have hq:(n:Int)/32=((n/32:Nat):Int):=by omega
 have hp:(n:Int)%32=((n%32:Nat):Int):=by omega
 have vV:n%32<32:=by omega
 have xo:n/32<=31250:=by omega
 obtain⟨A,c,rfl,_,_⟩:=h
 have l9:=aad gJ
 clear ha va gJ
 generalize af ae a=xs at *
 generalize a*2^n=z at *
 have hn0:(0:Int)<=n:=by omega
 have HN:=aad hn
 clear hn
 generalize n/32=q at *
 generalize n%32=p at *
 have lj:=aad xo
 clear xo
 have Zs:(n:Int)<=1000000:=by have:=HN.out;omega
 generalize (n:Int)=ni at *
 go_enter Tryz.func171,Tryz.ntmps171
 go_wp2_with (at_make;refine cb _ rfl (.tmp 14) (.tmp 14) 66 184 rfl (.int .u32 0) 4 Tryz.underlying66 jt rfl .i64 .i64 _ _ q rfl rfl ?c1 ?c1' ?c2 ?c3 ?_)
 case c1=>omega
 case c1'=>omega
 case c2=>have:=lj.out;omega
 case c3=>have:=lj.out;omega
 intro w1 bU eo bn
 rw[aZv] at bn
 have kU:w1.ownsRow w.heap.size 184 1 (.slice (some ⟨w.heap.size,0,none⟩) q q) (List.replicate q 0).length (bT (List.replicate q 0)):=⟨by rw[jA];omega,.inr ⟨w.heap.size,q,_,by rw[tO],bX _,bn,by rw[tO];omega,by have:=lj.out;unfold maxLen;omega,by simp[bT],by simp[bT]⟩⟩
 have HX:=aad bU
 have HO:=aad kU
 clear bU bn eo kU hq
 go_wp2
 go_loopw [5,6,7] (λu c i wr=>∃(k cc:Nat) (L:List Nat),k<=xs.length+1/\i = .int .i64 k/\c = .int .u64 cc/\Hid (qf xs q p k cc L)/\Hid (wr.ownsRow w.heap.size 184 1 u L.length (bT L))/\Hid (Ext w wr)) (λ_ _ i _=>xs.length+1-(intOf i).toNat)
 case atStart=>exact⟨0,0,_,ia _,rfl,rfl,aad (qf.start xs q p),HO,HX⟩
 case round=>
  rename_i u5 _ _ _
  obtain⟨k,cc,L,hk,rfl,rfl,hL,hob,hex⟩:=hrel
  have hlen:=hL.out.len
  have sF:k<=8589934593:=by omega
  by_cases yM:k<=xs.length
  ·have hN:=hL.out.step l9.out
   have bw:=l9.out.getD (by unfold ae;omega) k
   have aU:=hL.out.lt
   have UF:=aad (λW h=>HA.out k W sF h)
   have xC:=ZF aU bw vV
   have htl:=Na aU bw
   generalize xs.getD k 0=x at *
   generalize Fi cc x p=t at *
   have htb:t<18446744073709551616:=by
    have h2:(2:Nat)^p<=2^31:=iS (by omega) (by omega);have h3:=cM ae h2;have h4:(2:Nat)^31*ae=9223372036854775808:=by unfold ae;decide
    omega
   have nA:(cc:Int)<=2147483647:=by have h2:(2:Nat)^p<=2^31:=iS (by omega) (by omega);omega
   have O6:(t:Int)<=18446744073709551615:=by omega
   have Vj:=aad xC
   have mc:=aad hN
   have mR:(x:Int)<=4294967295:=by unfold ae at bw;omega
   have E1:Hid (((t/ae:Nat):Int)=(t:Int)/4294967296):=aad (by unfold ae;omega)
   have E2:Hid (((t%ae:Nat):Int)=(t:Int)%4294967296):=aad (by unfold ae;omega)
   have Vk:Hid (L.length<=8589970000):=aad (by have:=lj.out;omega)
   clear hN xC htl htb aU bw hlen hL sF
   go_wp2_with fail
   refine(UF.out _ hex.out).mono ?_
   rintro e w2 ⟨rfl,rfl⟩
   have xC:=Vj.out
   go_wp2_with (at_builtin;refine wpList_append_own _ rfl _ _ 66 rfl w.heap.size 184 i0 (.int .u32 0) 1 4 Tryz.underlying66 hi nm pR xa rfl (by decide) _ _ _ rfl (hob.out.alloc _) ⟨wr.heap.size,0,none⟩ 1 1 [.int .u32 ((t:Int)%4294967296)] rfl rfl ?c1 ?c2 ?c3 ?c4 ?c5 ?_)
   case c1=>
    intro j u hj
    match j,hj with
    | 0,hj=>simp at hj;subst hj;simp[Addr.add]
   case c2=>intro u hu;simp at hu;subst hu;rfl
   case c3=>have:=Vk.out;unfold maxLen;omega
   case c4=>have:=Vk.out;omega
   case c5=>have:=hex.out.size;simp;omega
   intro v' w3 jR jS _
   have eR:Ext w w3:=(hex.out.alloc _).grown jS (by have:=hex.out.size;simp;omega) (λk hk=>(hob.out.lt k hk).1)
   have Pp:=aad jR
   have tq:=aad eR
   clear jR jS eR
   go_wp2
   go_roundw
   case rel=>
    refine⟨k+1,t/ae,L++[t%ae],by omega,by go_num,by rw[E1.out],mc,aad ?_,tq⟩
    rw[zP,E2.out,c6]
    exact Pp.out
   case measure=>simp[intOf];omega
  ·obtain rfl:k=xs.length+1:=by omega
   go_wp2_with fail
   refine(HF.out _ _ L cc hL.out hob.out).mono ?_
   rintro e w3 ⟨v,rfl,hr,rfl⟩
   have HR:=aad hr
   clear hr
   go_wp2
   go_ret
   exact⟨_,rfl,HR.out,hex.out⟩
theorem Fl (a n:Nat) (v:Value) (w:World) (h:bJ a v w) (ha:bl a<=274877906944) (Zs:1<=n) (hn:n<=1000000) :
  Calls Tryz.prog 171 #[v,.int .i64 (-(n:Int))] w (cA (bJ (a/2^n)) w):=by
 obtain⟨i0,hi,nm,pR,xa⟩:=info_parts jt
 have jh:=cL a 8589934592 (by omega)
 have gJ:=aL aE a
 have HA:Hid (∀(i:Nat) W,i<=8589934593->Ext w W->Calls Tryz.prog 172 #[v,.int .i64 i] W λe w'=>e = .returned (.int .u64 ((af ae a).getD i 0:Nat))/\W=w'):=aad (λi W hi hx=>r6 (af ae a) v i W (dK.ext h hx) gJ (by omega) (by omega))
 have va:=amE aE a
 have ZG:32*(n/32)+n%32=n:=by omega
 have HF:Hid (∀W u k,(af ae a).length<=n/32+k->n/32+k<=max (af ae a).length (n/32)->W.ownsRow w.heap.size 184 1 u (jH (a/2^n) k).length (bT (jH (a/2^n) k))->Calls Tryz.prog 130 #[u] W λe w'=>∃v',e = .returned v'/\bJ (a/2^n) v' W/\w'=W):=aad (λW u k Dy Dz hb=>by
  have h:=dV (dK.By hb) (by rw[se];omega) (Pq _ _);have e:val ae (jH (a/2^n) k)=a/2^n:=by
   rcases Nat.le_total (n/32) (af ae a).length with hq | hq
   ·have:=Fk gJ (q:=n/32) (p:=n%32) hq;rw[va,ZG,show(af ae a).length-n/32=k from by omega] at this;exact this
   ·have:=BR gJ (q:=n/32) (p:=n%32) hq;rw[va,ZG] at this;rw[this,zO,Nat.zero_mod]
  rw[e] at h;exact h)
 have HSD:Hid (∀k,((af ae a).getD (n/32+k) 0+ae*(af ae a).getD (n/32+k+1) 0)/2^(n%32)%ae=a/2^n/ae^k%ae):=aad (λk=>by have:=BP gJ (q:=n/32) (p:=n%32) (i:=k) (by omega);rw[va,ZG] at this;exact this)
 have hq:(n:Int)/32=((n/32:Nat):Int):=by omega
 have hp:(n:Int)%32=((n%32:Nat):Int):=by omega
 have vV:n%32<32:=by omega
 have xo:n/32<=31250:=by omega
 obtain⟨A,c,rfl,_,_⟩:=h
 have l9:=aad gJ
 clear ha va gJ ZG
 generalize af ae a=xs at *
 generalize a/2^n=z at *
 have hn0:(1:Int)<=n:=by omega
 have hn2:(n:Int)<=1000000:=by omega
 clear hn Zs
 generalize n/32=q at *
 generalize n%32=p at *
 have lj:=aad xo
 clear xo
 generalize (n:Int)=ni at *
 have hqi:(q:Int)<=31250:=by have:=lj.out;omega
 have HQ:=aad hq
 clear hq
 go_enter Tryz.func171,Tryz.ntmps171
 go_wp2
 go_loopw [8,9] (λu i wr=>∃(k:Nat),q+k<=max xs.length q/\i = .int .i64 ((q:Int)+(k:Int))/\Hid (wr.ownsRow w.heap.size 184 1 u (jH z k).length (bT (jH z k)))/\Hid (Ext w wr)) (λ_ i _=>xs.length-(intOf i).toNat)
 case atStart=>exact⟨0,by omega,by rw[HQ.out];simp,aad ⟨by simp[jH,bT],.inl ⟨rfl,by simp[jH]⟩⟩,aad (Ext.refl w)⟩
 case round=>
  rename_i u8 _ _
  obtain⟨k,hk,rfl,hob,hex⟩:=hrel
  by_cases yM:q+k<xs.length
  ·have bw:=l9.out.getD (by unfold ae;omega) (q+k)
   have de:=l9.out.getD (by unfold ae;omega) (q+k+1)
   have UF:Hid (∀W,Ext w W->Calls Tryz.prog 172 #[.slice A xs.length c,.int .i64 ((q:Int)+(k:Int))] W λe w'=>e = .returned (.int .u64 (xs.getD (q+k) 0:Nat))/\W=w'):=aad (λW h=>by have h:=HA.out (q+k) W (by omega) h;rw[show((q+k:Nat):Int)=(q:Int)+(k:Int) from by omega] at h;exact h)
   have HA2:Hid (∀W,Ext w W->Calls Tryz.prog 172 #[.slice A xs.length c,.int .i64 ((q:Int)+(k:Int)+1)] W λe w'=>e = .returned (.int .u64 (xs.getD (q+k+1) 0:Nat))/\W=w'):=aad (λW h=>by have h:=HA.out (q+k+1) W (by omega) h;rw[show((q+k+1:Nat):Int)=(q:Int)+(k:Int)+1 from by omega] at h;exact h)
   have hsd:=HSD.out k
   have xC:=ac1 bw de
   generalize xs.getD (q+k) 0=x at *
   generalize xs.getD (q+k+1) 0=y at *
   have htb:x+ae*y<18446744073709551616:=by unfold ae at *;omega
   generalize x+ae*y=t at *
   have O6:(t:Int)<=18446744073709551615:=by omega
   have Vj:=aad xC
   have aff:=aad hsd
   have mR:(x:Int)<=4294967295:=by unfold ae at bw;omega
   have wF:(y:Int)<=4294967295:=by unfold ae at de;omega
   have E2:Hid (((t/2^p%ae:Nat):Int)=(t:Int)/2^p%4294967296):=aad (by rw[CR,Au,GV];rfl)
   have Vk:Hid ((jH z k).length<=8589970000):=aad (by rw[se];omega)
   clear xC hsd htb bw de
   go_wp2_with fail
   refine(UF.out _ hex.out).mono ?_
   rintro e w2 ⟨rfl,rfl⟩
   go_wp2_with fail
   refine(HA2.out _ hex.out).mono ?_
   rintro e w2 ⟨rfl,rfl⟩
   have xC:=Vj.out
   go_wp2_with (at_builtin;refine wpList_append_own _ rfl _ _ 66 rfl w.heap.size 184 i0 (.int .u32 0) 1 4 Tryz.underlying66 hi nm pR xa rfl (by decide) _ _ _ rfl (hob.out.alloc _) ⟨wr.heap.size,0,none⟩ 1 1 [.int .u32 ((t:Int)/2^p%4294967296)] rfl rfl ?c1 ?c2 ?c3 ?c4 ?c5 ?_)
   case c1=>
    intro j u hj
    match j,hj with
    | 0,hj=>simp at hj;subst hj;simp[Addr.add]
   case c2=>intro u hu;simp at hu;subst hu;rfl
   case c3=>have:=Vk.out;unfold maxLen;omega
   case c4=>have:=Vk.out;omega
   case c5=>have:=hex.out.size;simp;omega
   intro v' w3 jR jS _
   have eR:Ext w w3:=(hex.out.alloc _).grown jS (by have:=hex.out.size;simp;omega) (λk hk=>(hob.out.lt k hk).1)
   have Pp:=aad jR
   have tq:=aad eR
   clear jR jS eR
   go_wp2
   go_roundw
   case rel=>
    refine⟨k+1,by omega,by congr 1,aad ?_,tq⟩
    rw[Jq,<-aff.out,zP,E2.out,c6]
    exact Pp.out
   case measure=>simp[intOf];omega
  ·have dq:xs.length<=q+k:=by omega
   go_wp2_with fail
   refine(HF.out _ _ k dq hk hob.out).mono ?_
   rintro e w3 ⟨v,rfl,hr,rfl⟩
   have HR:=aad hr
   clear hr
   go_wp2
   go_ret
   exact⟨_,rfl,HR.out,hex.out⟩
structure mf (xs:List Nat) (d k r:Nat) (L:List Nat):Prop where
 len:L.length=xs.length
 bP:aC ae L
 lt:r<d
 eq:val ae (xs.drop k)=val ae (L.drop k)*d+r
theorem mf.start (xs:List Nat) {d:Nat} (h:0<d):mf xs d xs.length 0 (List.replicate xs.length 0):=⟨by simp,aC.rep (by unfold ae;omega) _,h,by rw[Ac,yv (by simp)];simp⟩
theorem Pr {x b V W d r t q s:Nat} (h:V=W*d+r) (ht:t=r*b+x) (hq:d*q+s=t):x+b*V=(q+b*W)*d+s:=by grind
theorem mf.step {xs:List Nat} {d k r:Nat} {L:List Nat} (h:mf xs d (k+1) r L) (hk:k<xs.length) (hd:aC ae xs) :
  (r*ae+xs.getD k 0)/d<ae/\mf xs d k ((r*ae+xs.getD k 0)%d) (L.set k ((r*ae+xs.getD k 0)/d)):=by
 have hx:=hd.getD (by unfold ae;omega) k
 have rU:0<d:=yl (ia _) h.lt
 have hq:(r*ae+xs.getD k 0)/d<ae:=by rw[iZ rU];have:(r+1)*ae<=d*ae:=cM _ h.lt;rw[nP,qU] at this;rw[eM ae];omega
 have hl:=h.len
 refine⟨hq,by simpa using hl,h.bP.set _ hq,pv _ rU,?_⟩
 rw[cn ae xs k hk,cn ae (L.set k _) k (by simp;omega),eb,Ch,<-aP xs k hk]
 exact Pr h.eq rfl (tN _ _)
theorem mf.fin {xs:List Nat} {d r:Nat} {L:List Nat} (h:mf xs d 0 r L):val ae L=val ae xs/d/\r=val ae xs%d:=by
 have e:=h.eq;rw[CT,CT] at e;have rU:0<d:=yl (ia _) h.lt;rw[e];constructor
 ·rw[eM,C6 rU,sD h.lt,qX]
 ·rw[eM,C7,nK h.lt]
theorem Jr {r x:Nat} (hr:r<ae) (hx:x<ae):bits .or .u64 ((r:Int)*4294967296) (x:Int)=((r*ae+x:Nat):Int):=by
 have e:(r:Int)*4294967296=((r*ae:Nat):Int):=by unfold ae;omega
 rw[e,u64_or_nat (r*ae) x (by unfold ae at *;omega) (by unfold ae at *;omega),Jn];have h:=rR (p:=32) (o:=x) (y:=r) hx;have e2:2^32*r=r*ae:=by unfold ae;omega
 rw[e2] at h;rw[h,Aa]
def Fm (q r:Nat) (w:World) (e:Ending) (w':World):Prop:=∃u,e = .returned (.tuple #[u,.int .u32 (r:Nat)])/\bJ q u w'/\Ext w w'
theorem Fo (a d:Nat) (v:Value) (w:World) (h:bJ a v w) (ha:bl a<=274877906944) (ks:0<d) (hZ:d<ae) :
  Calls Tryz.prog 169 #[v,.int .u32 d] w (Fm (a/d) (a%d) w):=by
 have jh:=cL a 8589934592 (by omega)
 have gJ:=aL aE a
 have va:=amE aE a
 obtain⟨A,c,rfl,_,hh⟩:=h
 have HF:Hid (∀L W r,mf (af ae a) d 0 r L->ar W w.heap.size 184 (bT L)->r=a%d/\Calls Tryz.prog 130 #[.slice (some ⟨w.heap.size,0,none⟩) (af ae a).length (af ae a).length] W λe w'=>∃v',e = .returned v'/\bJ (a/d) v' W/\w'=W):=aad (λL W r hL hb=>by obtain⟨f1,f2⟩:=hL.fin;rw[va] at f1 f2;have h:=dV (dK.iA hb) (by rw[hL.len];omega) hL.bP;rw[f1,hL.len] at h;exact⟨f2,h⟩)
 have l9:=aad gJ
 have HH:=aad hh
 clear hh ha va gJ
 generalize af ae a=xs at *
 generalize a/d=qq at *
 generalize a%d=rr at *
 have pP:(0:Int)<d:=by omega
 have hdu:(d:Int)<=4294967295:=by unfold ae at hZ;omega
 have Zp:((d:Int) == 0)=false:=pN.2 (by omega)
 go_enter Tryz.func169,Tryz.ntmps169
 go_wp2_with (at_make;refine cb _ rfl (.tmp 10) (.tmp 10) 66 184 rfl (.int .u32 0) 4 Tryz.underlying66 jt rfl .i64 .i64 _ _ xs.length rfl rfl ?c1 ?c1' ?c2 ?c3 ?_)
 case c1=>omega
 case c1'=>omega
 case c2=>omega
 case c3=>omega
 intro w1 bU eo bn
 rw[aZv] at bn
 have HX:=aad bU
 have yL:=aad bn
 clear bU bn eo
 go_wp2
 go_loopw [7,8] (λc i wr=>∃(k r:Nat) (L:List Nat),k<=xs.length/\i = .int .i64 ((k:Int)-1)/\c = .int .u64 r/\Hid (mf xs d k r L)/\Hid (ar wr w.heap.size 184 (bT L))/\Hid (Ext w wr)) (λ_ i _=>(intOf i+1).toNat)
 case atStart=>exact⟨xs.length,0,_,bX _,rfl,rfl,aad (mf.start xs ks),yL,HX⟩
 case round=>
  obtain⟨k,r,L,hk,rfl,rfl,hL,aZ,hex⟩:=hrel
  by_cases AG:k=0
  ·subst AG
   have Y3:=hL.out.lt
   obtain⟨hr,du⟩:=HF.out L wr r hL.out aZ.out
   have HC:=aad du
   have Ps:(r:Int)<=4294967295:=by omega
   have IQ:=aad hr
   clear du hr Y3
   go_wp2_with fail
   refine(HC.out).mono ?_
   rintro e w3 ⟨v,rfl,hv,rfl⟩
   have HV:=aad hv
   clear hv
   go_wp2
   go_ret2
   exact⟨_,by rw[<-IQ.out];rfl,HV.out,hex.out⟩
  ·obtain⟨k,rfl⟩:∃j,k=j+1:=⟨k-1,by omega⟩
   rw[show((k+1:Nat):Int)-1=(k:Int) from by omega]
   have dq:k<xs.length:=by omega
   obtain⟨g,off,rfl,hg,aK⟩:=HH.out (λe=>by rw[e] at dq;simp at dq)
   have ez:wr.cell? ⟨g,off+k,none⟩=some (.int .u32 (xs.getD k 0:Nat)):=hex.out.ak (aK k dq)
   have hlen:=hL.out.len
   have yJ:wr.cell? ⟨w.heap.size,k,none⟩=some (.int .u32 (L.getD k 0:Nat)):=by rw[aZ.out.cell,cY _ _ (by omega)]
   have pT:wr.frozen? ⟨w.heap.size,k,none⟩=false:=aZ.out.frozen _
   have bw:=l9.out.getD (by unfold ae;omega) k
   have yS:=hL.out.lt
   obtain⟨Zo,hN⟩:=hL.out.step dq l9.out
   have xC:=Jr (Gc yS hZ) bw
   generalize xs.getD k 0=x at *
   generalize L.getD k 0=o at *
   have htb:r*ae+x<18446744073709551616:=by unfold ae at *;omega
   generalize r*ae+x=t at *
   have HN:=aad hN
   have O6:(t:Int)<=18446744073709551615:=by omega
   have mR:(x:Int)<=4294967295:=by unfold ae at bw;omega
   have Ps:(r:Int)<=4294967295:=by omega
   have E1:Hid (((t%d:Nat):Int)=(t:Int)%(d:Int)):=aad (CR t d)
   have E3:Hid (IntKind.u64.wrap ((t:Int)/(d:Int))%4294967296=((t/d:Nat):Int)):=aad (by have hqi:t/d<4294967296:=Zo;rw[<-Au,IntKind.wrap_u64];revert hqi;generalize t/d=qd;intro hqi;omega)
   clear hN htb aK hlen hL bw yS Zo
   go_wp2
   rw[E3.out]
   refine⟨⟨k,t%d,L.set k (t/d),by omega,rfl,by rw[E1.out],HN,aad (by rw[<-fa];exact aZ.out.set _ _),aad (Below.setCell hex.out (p:=⟨w.heap.size,k,none⟩) (bX _) _)⟩,by simp[intOf]⟩
theorem ac6 {j k a b:Nat} (ha:Sm j a) (hb:Sm k b) {v1 v2:Value} (W:World) (h1:bJ a v1 W) (h2:bJ b v2 W) (h:max j k<=549755813888:=by decide) :
  Calls Tryz.prog 134 #[v1,v2] W (cg (.int .i64 (bG a b)) W):=lJ a b v1 v2 W h1 h2 (by unfold Sm at ha;omega) (by unfold Sm at hb;omega)
def sf (q r:Nat) (w:World) (e:Ending) (w':World):Prop:=∃u1 u2,e = .returned (.tuple #[u1,u2])/\bJ q u1 w'/\bJ r u2 w'/\Ext w w'
theorem BS (a b:Nat) (v1 v2:Value) (w:World) (h1:bJ a v1 w) (h2:bJ b v2 w) (ha:bl a<=137438953472) (hb:bl b<=137438953472) (aU:a<b) :
  Calls Tryz.prog 132 #[v1,v2] w (sf 0 a w):=by
 have HC:Hid (∀W,Ext w W->Calls Tryz.prog 134 #[v1,v2] W (cg (.int .i64 (-1)) W)):=aad (λW hx=>by have h:=lJ a b v1 v2 W (h1.ext hx) (h2.ext hx) (by omega) (by omega);rw[di aU] at h;exact h)
 have H1:=aad h1
 clear h1 h2 ha hb aU
 go_enter Tryz.func132,Tryz.ntmps132
 go_wp2_with fail
 refine(HC.out _ (Ext.refl w)).mono ?_
 rintro e w1 ⟨rfl,bU⟩
 have im:=aad bU
 clear bU
 go_wp2
 go_ret2
 exact⟨_,_,rfl,bJ.nil _,H1.out.ext im.out,im.out⟩
theorem Fp (a b:Nat) (v1 v2:Value) (w:World) (h1:bJ a v1 w) (h2:bJ b v2 w) (ha:bl a<=137438953472) (kf:0<b) (hb:b<ae) (hle:b<=a) :
  Calls Tryz.prog 132 #[v1,v2] w (sf (a/b) (a%b) w):=by
 have cX:bl b<=bl a:=eZ hle
 obtain⟨z,hz,nm⟩:∃z,bG a b=z/\decide (z<0)=false:=⟨bG a b,rfl,by unfold bG;rw[dw (by omega)];split<;>rfl⟩
 have HC:Hid (∀W,Ext w W->Calls Tryz.prog 134 #[v1,v2] W (cg (.int .i64 z) W)):=aad (λW hx=>by have h:=lJ a b v1 v2 W (h1.ext hx) (h2.ext hx) (by omega) (by omega);rw[hz] at h;exact h)
 have HO:Hid (∀W,Ext w W->Calls Tryz.prog 169 #[v1,.int .u32 b] W (Fm (a/b) (a%b) W)):=aad (λW hx=>Fo a b v1 W (h1.ext hx) (by omega) kf hb)
 have hr:a%b<ae:=Gc (pv _ kf) hb
 have HN:Hid (∀W,Calls Tryz.prog 79 #[.int .u64 (a%b:Nat)] W (cA (bJ (a%b)) W)):=aad (λW=>xk (a%b) (by unfold ae at hr;unfold aa;omega) W)
 have hl:af ae b=[b]:=by rw[cV aE (by omega),nK hb,sD hb,aX]
 obtain⟨A,c,hv,_,hh⟩:=h2
 rw[hl] at hv hh
 obtain⟨g,off,rfl,hg,aK⟩:=hh (by simp)
 have hc:=aK 0 (by simp)
 rw[qX] at hc
 simp only[List.getD_cons_zero] at hc
 simp only[yn] at hv
 subst hv
 have Ps:((a%b:Nat):Int)<=4294967295:=by unfold ae at hr;omega
 clear aK hh h1 ha kf hb hle cX hz hl hr
 generalize a/b=qq at *
 generalize a%b=rr at *
 go_enter Tryz.func132,Tryz.ntmps132
 go_wp2_with fail
 refine(HC.out _ (Ext.refl w)).mono ?_
 rintro e w1 ⟨rfl,bU⟩
 have cU:=bU.ak hc
 have im:=aad bU
 clear bU hc
 go_wp2_with fail
 refine(HO.out _ im.out).mono ?_
 rintro e w2 ⟨u2,rfl,jg,fP⟩
 have HU2:=aad jg
 have mo:=aad (im.out.trans fP)
 clear jg fP cU
 go_wp2_with fail
 refine(HN.out _).mono ?_
 rintro e w3 ⟨u3,rfl,hu3,eR⟩
 have Zu:=aad hu3
 have HU4:=aad (HU2.out.ext eR)
 have tq:=aad (mo.out.trans eR)
 clear hu3 eR
 go_wp2
 go_ret2
 exact⟨_,_,rfl,HU4.out,Zu.out,tq.out⟩
end Go.Proofs.YtnciifikfkpanaaGreatDoor
