/- The base of the proof: contracts of functions, the engine that shows them, and mathematics. -/
import Derived.Deep.RegionHeld3
import Derived.RegionTactic
import Derived.BigRegion
import Derived.Lib.MinMax
import Derived.Lib.ItoaMem
import Derived.Lib.LaidTab
import Derived.Stop.LaidErr
import Derived.Shelf.Spec.TrailingZeros
import Derived.Laws.Bits64b
import Derived.Laws.AppendOwnNone
import Derived.Test.YtnciifikfkpanaaGreatDoorBd4
set_option maxRecDepth 100000
set_option linter.unusedVariables false
set_option linter.unusedSimpArgs false
set_option maxHeartbeats 4000000
namespace Go.Proofs.YtnciifikfkpanaaGreatDoor
structure lh (xs ys:List Nat) (i c:Nat) (L:List Nat):Prop where
 len:L.length=max xs.length ys.length+1
 bP:aC ae L
 c1:c<=1
 vl:val ae (L.take i)+c*ae^i=val ae (xs.take i)+val ae (ys.take i)
theorem lh.start (xs ys:List Nat):lh xs ys 0 0 (List.replicate (max xs.length ys.length+1) 0):=⟨by simp,aC.rep (by unfold ae;omega) _,by omega,by simp⟩
theorem lh.step {xs ys:List Nat} {i c:Nat} {L:List Nat} (h:lh xs ys i c L) (hx:aC ae xs) (hy:aC ae ys) (hi:i<L.length) :
  lh xs ys (i+1) ((c+xs.getD i 0+ys.getD i 0)/ae) (L.set i ((c+xs.getD i 0+ys.getD i 0)%ae)):=by
 have h1:=hx.getD (by unfold ae;omega) i
 have h2:=hy.getD (by unfold ae;omega) i
 have h3:=h.c1
 have e:=yc (c+xs.getD i 0+ys.getD i 0) ae
 refine⟨by simpa using h.len,h.bP.set _ (pv _ (by unfold ae;omega)),?_,?_⟩
 ·clear e;unfold ae at *;omega
 ·rw[gP _ _ _ _ hi,aD,aD,jV]
  refine y7 h.vl ?_
  rw[e];omega
theorem lh.fin {xs ys:List Nat} {c:Nat} {L:List Nat} (h:lh xs ys L.length c L) (hx:aC ae xs) (hy:aC ae ys):val ae L=val ae xs+val ae ys:=by
 have hv:=h.vl;have hl:=h.len;have h3:=h.c1;rw[qY,jq _ xs _ (by omega),jq _ ys _ (by omega)] at hv;have gH:=cl hx;have lA:=cl hy;have a1:ae^xs.length<=ae^max xs.length ys.length:=iS (by unfold ae;omega) (Hr _ _);have a2:ae^ys.length<=ae^max xs.length ys.length:=iS (by unfold ae;omega) (Hl _ _);rw[hl,jV] at hv;generalize ae^max xs.length ys.length=M at *
 have a3:M*ae=M*4294967296:=rfl;rw[a3] at hv;rcases gA c with h0 | h0
 ·subst h0;simpa using hv
 ·obtain rfl:c=1:=by omega
  omega
structure l8 (xs ys:List Nat) (i c:Nat) (L:List Nat):Prop where
 len:L.length=xs.length
 bP:aC ae L
 c1:c<=1
 vl:val ae (xs.take i)+c*ae^i=val ae (L.take i)+val ae (ys.take i)
theorem l8.start (xs ys:List Nat):l8 xs ys 0 0 (List.replicate xs.length 0):=⟨by simp,aC.rep (by unfold ae;omega) _,by omega,by simp⟩
theorem ny {x y c d:Nat} (hx:x<ae) (hy:y<ae) (hc:c<=1) (hd:d=(x+18446744073709551616-y-c)%18446744073709551616) :
  x+ae*(d/9223372036854775808)=y+c+d%4294967296/\d/9223372036854775808<=1:=by
 unfold ae at *;omega
theorem l8.step {xs ys:List Nat} {i c d:Nat} {L:List Nat} (h:l8 xs ys i c L) (hx:aC ae xs) (hy:aC ae ys) (hi:i<xs.length)
  (hd:d=(xs.getD i 0+18446744073709551616-ys.getD i 0-c)%18446744073709551616) :
  l8 xs ys (i+1) (d/9223372036854775808) (L.set i (d%4294967296)):=by
 have h1:=hx.getD (by unfold ae;omega) i
 have h2:=hy.getD (by unfold ae;omega) i
 obtain⟨e,e1⟩:=ny h1 h2 h.c1 hd
 refine⟨by simpa using h.len,h.bP.set _ (pv _ (by omega)),e1,?_⟩
 rw[gP _ _ _ _ (by rw[h.len];exact hi),aD,aD,jV]
 exact sQ h.vl e
theorem l8.fin {xs ys:List Nat} {c:Nat} {L:List Nat} (h:l8 xs ys xs.length c L) (hle:val ae ys<=val ae xs) (hl:ys.length<=xs.length):val ae L=val ae xs-val ae ys:=by
 have hv:=h.vl;have h3:=h.c1;have uN:=cl h.bP;rw[h.len] at uN;rw[qY,jq _ ys _ hl,jq _ L _ (by rw[h.len];omega)] at hv;generalize ae^xs.length=M at *
 rcases gA c with h0 | h0
 ·subst h0;omega
 ·obtain rfl:c=1:=by omega
  omega
theorem Uo {a b j:Nat} (h:(af ae a).length=(af ae b).length) (hj:j<(af ae a).length) (hd:(af ae a).drop (j+1)=(af ae b).drop (j+1))
  (ay:(af ae a).getD j 0≠(af ae b).getD j 0):bG ((af ae a).getD j 0) ((af ae b).getD j 0)=bG a b:=by
 have EC:j<(af ae b).length:=by omega
 have da:=aL aE a
 have db:=aL aE b
 have va:=amE aE a
 have vb:=amE aE b
 rw[aP _ _ hj,aP _ _ EC] at ay ⊢
 rcases aV (af ae a)[j] (af ae b)[j] with h' | h'
 ·have:=jc da h hj hd h'
  rw[va,vb] at this
  rw[di this,di h']
 ·have h':(af ae b)[j]<(af ae a)[j]:=by omega
  have:=jc db h.symm EC hd.symm h'
  rw[va,vb] at this
  rw[dB this,dB h']
end Go.Proofs.YtnciifikfkpanaaGreatDoor
namespace Go.Proofs.YtnciifikfkpanaaGreatDoor.eA
theorem En {B mn o c lo hi s1 c1 s2 c2:Nat} (h1:lo+B*hi=mn) (h2:s1+B*c1=lo+o) (h3:s2+B*c2=s1+c):s2+B*(hi+c1+c2)=mn+o+c:=by grind
theorem vj {B m n o c q r:Nat} (hm:m<B) (hn:n<B) (ho:o<B) (hc:c<B) (h:r+B*q=m*n+o+c):q<B:=by
 have h1:m*n<=(B-1)*(B-1):=x6 (by omega) (by omega);rcases aV q B with h' | h'
 ·exact h'
 ·exfalso;have h2:B*B<=B*q:=eJ _ h';obtain⟨b,rfl⟩:∃b,B=b+1:=⟨B-1,by omega⟩
  simp only[pK] at h1;have h3:(b+1)*(b+1)=b*b+2*b+1:=by grind
  omega
theorem nu {oQ VL c I J o s q A YT x y B:Nat} (hv:VL+c*(I*J)=A+x*YT*I) (v:oQ+I*J*o=VL+I*J*s) (e:s+B*q=x*y+o+c) :
  oQ+q*(I*J*B)=A+x*(YT+J*y)*I:=by
 have e2:I*J*s+I*J*B*q=I*J*x*y+I*J*o+I*J*c:=by
  have:I*J*(s+B*q)=I*J*(x*y+o+c):=by rw[e]
  grind
 clear e
 grind
structure gY (xs ys:List Nat) (i j c:Nat) (L:List Nat):Prop where
 len:L.length=xs.length+ys.length
 bP:aC ae L
 val:val ae L+c*ae^(i+j)=val ae (xs.take i)*val ae ys+xs.getD i 0*val ae (ys.take j)*ae^i
 rest:∀t,i+ys.length<=t->L.getD t 0=0
structure eY (xs ys:List Nat) (i:Nat) (L:List Nat):Prop where
 len:L.length=xs.length+ys.length
 bP:aC ae L
 val:val ae L=val ae (xs.take i)*val ae ys
 rest:∀t,i+ys.length<=t->L.getD t 0=0
theorem eY.start (xs ys:List Nat):eY xs ys 0 (List.replicate (xs.length+ys.length) 0):=⟨by simp,aC.rep (by unfold ae;omega) _,by rw[fX];simp,λi _=>kH _ i⟩
theorem eY.inner {xs ys:List Nat} {i:Nat} {L:List Nat} (h:eY xs ys i L):gY xs ys i 0 0 L:=⟨h.len,h.bP,by simpa using h.val,h.rest⟩
theorem gY.step {xs ys:List Nat} {i j c:Nat} {L:List Nat} (h:gY xs ys i j c L) (hi:i<xs.length) (hj:j<ys.length) {s q:Nat} (hs:s<ae)
  (e:s+ae*q=xs.getD i 0*ys.getD j 0+L.getD (i+j) 0+c):gY xs ys i (j+1) q (L.set (i+j) s):=by
 have hlen:=h.len
 have hl:i+j<L.length:=by omega
 have v:=df ae L (i+j) s hl
 rw[<-aP _ _ hl] at v
 refine⟨by simpa using hlen,h.bP.set _ hs,?_,λt ht=>?_⟩
 ·have hv:=h.val
  rw[aD ae ys,<-yf,jV]
  have e1:ae^(i+j)=ae^i*ae^j:=po _ _ _
  rw[e1] at v hv ⊢
  exact nu hv v e
 ·rw[b8 _ _ _ _ hl,dw (by omega)]
  exact h.rest t ht
theorem gY.close {xs ys:List Nat} {i c:Nat} {L:List Nat} (h:gY xs ys i ys.length c L) (hi:i<xs.length) (hc:c<ae):eY xs ys (i+1) (L.set (i+ys.length) c):=by
 have hlen:=h.len;have hl:i+ys.length<L.length:=by omega
 have v:=df ae L (i+ys.length) c hl;rw[<-aP _ _ hl,h.rest _ (bX _)] at v;refine⟨by simpa using hlen,h.bP.set _ hc,?_,λt ht=>?_⟩
 ·have hv:=h.val;rw[qY] at hv;rw[aD ae xs];generalize ae^(i+ys.length)=Q at *
  generalize ae^i=I at *
  generalize xs.getD i 0=x at *
  grind
 ·rw[b8 _ _ _ _ hl,dw (by omega)];exact h.rest t (by omega)
end Go.Proofs.YtnciifikfkpanaaGreatDoor.eA
namespace Go.Proofs.YtnciifikfkpanaaGreatDoor
open Go.RowKit
theorem dJ (n:Nat) (h:bl n<=549755813888):(af aa n).length<=8589934593:=by have:=kA n;omega
theorem ED {w:World} {base g:Nat} {xs:List Nat} (h:ar w g 23 (U xs)) (hg:base<=g) (hl:xs.length<=maxLen) :
  w.ownsRow base 23 1 (.slice (some ⟨g,0,none⟩) xs.length xs.length) xs.length (U xs):=
 ⟨by rw[sJ,uB],.inr ⟨g,xs.length,_,rfl,hg,h,bX _,hl,by simp[U],by rw[jo (by simp[U])]⟩⟩
theorem xc {base:Nat} {xs:List Nat} {v:Value} (w:World) (h:w.ownsRow base 23 1 v xs.length (U xs)) (hl:xs.length<=10000000000) (hd:aC aa xs) :
  Calls Tryz.prog 115 #[v] w (cg (.agg #[.int .u64 (lo (val aa xs):Nat),.string (hi (val aa xs))]) w):=by
 rcases h.2 with ⟨rfl,h0⟩ | ⟨g,cap,cur,rfl,_,hh,hnc,_,lz,ab8⟩
 ·rw[iP h0];exact oT w
 ·refine oU g 0 cap xs w hnc hl hd (λi hi=>?_)
  rw[kJ,cell_of_row w g i cur _ (0,0) hh]
  have h1:=bQ xs i hi
  rw[<-ab8,tM (by omega)] at h1
  simpa using h1
theorem jG {base:Nat} {xs:List Nat} {v:Value} {w:World} (h:fy base xs v w) :
  ∃A c,v = .slice A xs.length c/\(xs≠[]->∃g,base<=g/\c=xs.length/\A=some ⟨g,0,none⟩/\ar w g 23 (U xs)):=by
 rcases h with ⟨rfl,rfl⟩ | ⟨g,h1,rfl,h2⟩
 ·exact⟨none,0,rfl,λh=>absurd rfl h⟩
 ·exact⟨_,_,rfl,λ_=>⟨g,h1,rfl,rfl,h2⟩⟩
theorem Ext.pH {a b:World} (h:Ext a.drew b):Ext a b:=⟨h.os,h.tape,h.output,h.size,h.block⟩
structure Up (w:World) (B gx:Nat) (X Y:List Nat) (A:Option Addr):Prop where
 kO:ar w gx 23 (U X)
 base:B<=gx
 le:Y.length<=X.length
 lx:X.length<=8589934593
 dx:aC aa X
 dy:aC aa Y
 other:Y≠[]->∃gy,A=some ⟨gy,0,none⟩/\gy≠gx/\ar w gy 23 (U Y)
theorem jT {L X:List Nat} {k:Nat} (h:L.drop k=X.drop k) (hk:k<X.length) (hl:L.length=X.length):L.getD k 0=X.getD k 0:=by rw[aP _ _ (by omega),aP _ _ hk];have e:=Co (λl=>l[0]?) h;simp only[Aq,qX] at e;rw[bF (by omega),bF hk] at e;injection e
theorem EE (a b:Nat) (ha:bl a<=549755813888) (hb:bl b<=549755813888) (h:aa<=a\/(a<aa/\aa<=b)) (w:World) :
  Calls Tryz.prog 106 #[.agg #[.int .u64 (lo a:Nat),.string (hi a)],.agg #[.int .u64 (lo b:Nat),.string (hi b)]] w (cg (.agg #[.int .u64 (lo (a+b):Nat),.string (hi (a+b))]) w):=by
 have hg:(hi a).toList.isEmpty=false\/((hi a).toList.isEmpty=true/\(hi b).toList.isEmpty=false):=by
  rcases h with h | ⟨h0,h⟩
  ·exact .inl (iz h)
  ·exact .inr ⟨by rw[bK h0,Lib.toList_data];rfl,iz h⟩
 have HA:Hid (∀W,Calls Tryz.prog 117 #[.agg #[.int .u64 (lo a:Nat),.string (hi a)]] W (cA (fy W.heap.size (af aa a)) W)):=aad (λW=>fC a ha W)
 have HB:Hid (∀W,Calls Tryz.prog 117 #[.agg #[.int .u64 (lo b:Nat),.string (hi b)]] W (cA (fy W.heap.size (af aa b)) W)):=aad (λW=>fC b hb W)
 generalize qM:hi a=sa at *
 generalize IS:hi b=sb at *
 generalize jh:lo a=la at *
 generalize kh:lo b=lb at *
 clear qM IS jh kh
 rcases hg with h1 | ⟨h1,h1'⟩
 all_goals
  go_enter Tryz.func106,Tryz.ntmps106
  go_wp2
  have p6:ar (((w.alloc (.cells #[.int .u64 la,.string sa] 36)).alloc (.cells #[.int .u64 lb,.string sb] 36)).alloc (.cells #[.int .u64 0,.string ⟨#[]⟩] 36)) w.heap.size 36 [.int .u64 la,.string sa]:=((ar.new w _ _).alloc _).alloc _
  have p7:ar (((w.alloc (.cells #[.int .u64 la,.string sa] 36)).alloc (.cells #[.int .u64 lb,.string sb] 36)).alloc (.cells #[.int .u64 0,.string ⟨#[]⟩] 36)) (w.heap.size+1) 36 [.int .u64 lb,.string sb]:=by have h:=(ar.new (w.alloc (.cells #[.int .u64 la,.string sa] 36)) 36 [.int .u64 lb,.string sb]).alloc (.cells #[.int .u64 0,.string ⟨#[]⟩] 36);rw[World.size_alloc] at h;exact h
  have rX:ar (((w.alloc (.cells #[.int .u64 la,.string sa] 36)).alloc (.cells #[.int .u64 lb,.string sb] 36)).alloc (.cells #[.int .u64 0,.string ⟨#[]⟩] 36)) (w.heap.size+1+1) 36 [.int .u64 0,.string ⟨#[]⟩]:=by have h:=ar.new ((w.alloc (.cells #[.int .u64 la,.string sa] 36)).alloc (.cells #[.int .u64 lb,.string sb] 36)) 36 [.int .u64 0,.string ⟨#[]⟩];rw[World.size_alloc,World.size_alloc] at h;exact h
  have rY:Ext w (((w.alloc (.cells #[.int .u64 la,.string sa] 36)).alloc (.cells #[.int .u64 lb,.string sb] 36)).alloc (.cells #[.int .u64 0,.string ⟨#[]⟩] 36)):=(((Ext.refl w).alloc _).alloc _).alloc _
  generalize ((w.alloc (.cells #[.int .u64 la,.string sa] 36)).alloc (.cells #[.int .u64 lb,.string sb] 36)).alloc (.cells #[.int .u64 0,.string ⟨#[]⟩] 36)=W at *
  have kr:W.cell? ⟨w.heap.size,0,none⟩=some (.int .u64 la):=p6.cell 0
  have cU:W.cell? ⟨w.heap.size,1,none⟩=some (.string sa):=p6.cell 1
  have ks:W.cell? ⟨w.heap.size+1,0,none⟩=some (.int .u64 lb):=p7.cell 0
  have kZ:W.cell? ⟨w.heap.size+1,1,none⟩=some (.string sb):=p7.cell 1
  go_region_held3 (λw'=>w'.cell? ⟨w.heap.size,0,none⟩=some (.int .u64 la)/\w'.cell? ⟨w.heap.size,1,none⟩=some (.string sa)/\w'.cell? ⟨w.heap.size+1,0,none⟩=some (.int .u64 lb)/\w'.cell? ⟨w.heap.size+1,1,none⟩=some (.string sb))
   (first | exact⟨kr,cU,ks,kZ⟩ | exact⟨dL.ak kr,dL.ak cU,dL.ak ks,dL.ak kZ⟩ | exact⟨(dL.trans jk).ak kr,(dL.trans jk).ak cU,(dL.trans jk).ak ks,(dL.trans jk).ak kZ⟩)
   (first | (go_at_call_of 117 (Value.string sa);refine(HA.out _).mono ?_;rintro e w1 ⟨v1,rfl,hf1,dL⟩) | (go_at_call_of 117 (Value.string sb);refine(HB.out _).mono ?_;rintro e w2 ⟨v2,rfl,EF,jk⟩))
  obtain⟨A1,c1,rfl,fj⟩:=jG hf1
  obtain⟨A2,c2,rfl,jv⟩:=jG EF
  have jh:=dJ a ha
  have kh:=dJ b hb
  have Uq:af aa a≠[]\/af aa b≠[]:=by
   rcases h with h | ⟨_,h⟩
   ·exact .inl λe=>by have:=(ay0 an).1 e;unfold aa at h;omega
   ·exact .inr λe=>by have:=(ay0 an).1 e;unfold aa at h;omega
  have Us:ar w2 (w.heap.size+1+1) 36 [.int .u64 0,.string ⟨#[]⟩]:=rX.ext (dL.pH.trans jk)
  have Ut:Ext w w2:=rY.trans (dL.pH.trans jk)
  have br:w.heap.size+1+1<W.heap.size:=rX.lt
  have Uu:af aa a≠[]->∃g1,A1=some ⟨g1,0,none⟩/\c1=(af aa a).length/\g1<w1.heap.size/\w.heap.size+1+1<g1/\ar w2 g1 23 (U (af aa a)):=λay=>by obtain⟨g1,ki,hc,rfl,Dy⟩:=fj ay;exact⟨g1,rfl,hc,Dy.lt,dz br ki,Dy.ext jk⟩
  have Uv:af aa b≠[]->∃g2,A2=some ⟨g2,0,none⟩/\c2=(af aa b).length/\w1.heap.size<=g2/\w.heap.size+1+1<g2/\ar w2 g2 23 (U (af aa b)):=λay=>by obtain⟨g2,uI,hc,rfl,Dz⟩:=jv ay;have eo:W.heap.size<=w1.heap.size:=dL.size;exact⟨g2,rfl,hc,uI,by omega,Dz⟩
  have xd:val aa (af aa a)+val aa (af aa b)=a+b:=by rw[amE an,amE an]
  have da:=aL an a
  have db:=aL an b
  clear hf1 EF jv dL jk p6 p7 rX rY kr cU ks kZ HA HB ha hb h fj
  generalize af aa a=P at *
  generalize af aa b=Q at *
  generalize a+b=n at *
  have Y9:(¬P.length<Q.length->∃g1,A1=some ⟨g1,0,none⟩/\c1=P.length/\Up w2 (w.heap.size+1+1+1) g1 P Q A2)/\(P.length<Q.length->∃g2,A2=some ⟨g2,0,none⟩/\c2=Q.length/\Up w2 (w.heap.size+1+1+1) g2 Q P A1):=by
   constructor
   ·intro h;obtain⟨g1,r1,r2,r3,r4,r5⟩:=Uu (λe=>by
     rcases Uq with h' | h'
     ·exact h' e
     ·apply h';subst e;exact iP (by simp at h;simp[h]))
    exact⟨g1,r1,r2,r5,r4,by omega,jh,da,db,λay=>by obtain⟨g2,h1,_,h2,_,h3⟩:=Uv ay;exact⟨g2,h1,by omega,h3⟩⟩
   ·intro h;obtain⟨g2,h1,h2,h3,h4,h5⟩:=Uv (λe=>by rw[e] at h;simp at h);exact⟨g2,h1,h2,h5,h4,by omega,kh,db,da,λay=>by obtain⟨g1,r1,_,r3,_,r5⟩:=Uu ay;exact⟨g1,r1,by omega,r5⟩⟩
  clear Uu jh kh da db Uv br Uq
  by_cases aU:P.length<Q.length
  case' pos=>
   obtain⟨g2,rfl,rfl,hp⟩:=Y9.2 aU
   clear Y9
   rw[Aa (val aa P)] at xd
   have IT:=aad xd
   clear xd
   have HP:=aad hp
   have gH:=hp.lx
   have lA:=hp.le
   clear hp
   go_wp2
   generalize Q=X at *
   generalize P=Y at *
   generalize g2=gx at *
   generalize A1=A at *
  case' neg=>
   obtain⟨g1,rfl,rfl,hp⟩:=Y9.1 aU
   clear Y9
   have IT:=aad xd
   clear xd
   have HP:=aad hp
   have gH:=hp.lx
   have lA:=hp.le
   clear hp
   go_wp2
   generalize P=X at *
   generalize Q=Y at *
   generalize g1=gx at *
   generalize A2=A at *
  all_goals
   clear aU
   have Uk:=aad Us
   have xe:=aad Ut
   clear Us Ut
   go_loopw [9,49] (λc i wr=>∃(k cc:Nat) (L:List Nat),k<=X.length/\cc<=1/\i = .int .i64 k/\c = .int .u64 cc/\Hid (L.length=X.length/\aC aa L/\L.drop k=X.drop k/\val aa (L.take k)+cc*aa^k=val aa (X.take k)+val aa (Y.take k))/\Hid (ar wr gx 23 (U L))/\Hid (bS gx w2 wr)) (λ_ i _=>X.length-(intOf i).toNat)
   case atStart=>refine⟨0,0,X,ia _,by omega,rfl,rfl,aad ⟨rfl,HP.out.dx,rfl,by simp⟩,aad HP.out.kO,aad (bS.refl _ _)⟩
   case round=>
    obtain⟨k,cc,L,hk,cG,rfl,rfl,hL,aZ,bg⟩:=hrel
    by_cases dq:k<X.length
    ·have ez:wr.cell? ⟨gx,k,none⟩=some (.int .u64 (X.getD k 0:Nat)):=by
      rw[aZ.out.cell k,bQ _ _ (by rw[hL.out.1];exact dq),jT hL.out.2.2.1 dq hL.out.1]
     have TX:wr.frozen? ⟨gx,k,none⟩=false:=aZ.out.frozen k
     have bw:X.getD k 0<aa:=HP.out.dx.getD (by unfold aa;omega) k
     have de:Y.getD k 0<aa:=HP.out.dy.getD (by unfold aa;omega) k
     have oV:∀s q,s+aa*q=X.getD k 0+Y.getD k 0+cc->s<aa->(L.set k s).length=X.length/\aC aa (L.set k s)/\(L.set k s).drop (k+1)=X.drop (k+1)/\val aa ((L.set k s).take (k+1))+q*aa^(k+1)=val aa (X.take (k+1))+val aa (Y.take (k+1)):=by
      intro s q e hs;obtain⟨l1,l2,l3,l4⟩:=hL.out;refine⟨by simpa using l1,l2.set k hs,?_,?_⟩
      ·rw[eb,<-EX,<-EX,l3]
      ·rw[gP _ _ _ _ (by omega),aD aa X,aD aa Y,jV];exact y7 l4 e
     have HS:=aad oV
     have hY:k<Y.length->∃gy,A=some ⟨gy,0,none⟩/\wr.cell? ⟨gy,k,none⟩=some (.int .u64 (Y.getD k 0:Nat)):=λkW=>by obtain⟨gy,h1,h2,h3⟩:=HP.out.other (λe=>by rw[e] at kW;simp at kW);exact⟨gy,h1,by rw[(bg.out.kO h3 h2).cell k,bQ _ _ kW]⟩
     have EG:¬k<Y.length->Y.getD k 0=0:=λh=>jy _ _ (by omega)
     have HY:=aad hY
     have xf:=aad EG
     clear oV hY EG
     generalize X.getD k 0=x at *
     by_cases kW:k<Y.length
     ·obtain⟨gy,rfl,mP⟩:=HY.out kW
      clear xf
      generalize Y.getD k 0=y at *
      have qc:∀W,(callFunc 148 #[.int .u64 x,.int .u64 y,.int .u64 cc]).run Tryz.prog W = .ok (.value (.tuple #[.int .u64 (fu x y cc:Nat),.int .u64 (jz x y cc:Nat)])) W:=λW=>AL x y cc cG W
      go_wp2
      go_roundw
      case rel=>exact⟨k+1,jz x y cc,L.set k (fu x y cc),by omega,py bw de cG,by go_num,rfl,aad (HS.out _ _ (nf x y cc) (lC x y cc)),aad (by rw[<-avy];exact aZ.out.set k _),aad (bg.out.set k _)⟩
      case measure=>simp[intOf];omega
     ·have jE:=xf.out kW
      rw[jE] at HS
      clear HY xf jE de
      have qc:∀W,(callFunc 148 #[.int .u64 x,.int .u64 0,.int .u64 cc]).run Tryz.prog W = .ok (.value (.tuple #[.int .u64 (fu x 0 cc:Nat),.int .u64 (jz x 0 cc:Nat)])) W:=λW=>AL x 0 cc cG W
      go_wp2
      go_roundw
      case rel=>exact⟨k+1,jz x 0 cc,L.set k (fu x 0 cc),by omega,py bw (by unfold aa;omega) cG,by go_num,rfl,aad (HS.out _ _ (nf x 0 cc) (lC x 0 cc)),aad (by rw[<-avy];exact aZ.out.set k _),aad (bg.out.set k _)⟩
      case measure=>simp[intOf];omega
    ·obtain rfl:k=X.length:=by omega
     obtain⟨l1,l2,l3,l4⟩:=hL.out
     have fV:val aa L+cc*aa^X.length=val aa X+val aa Y:=by rw[jo (by omega),qY,jo lA] at l4;exact l4
     have HV:=aad fV
     clear l3 l4 fV hL
     have uH:ar wr (w.heap.size+1+1) 36 [.int .u64 0,.string ⟨#[]⟩]:=bg.out.kO Uk.out (by have:=HP.out.base;omega)
     have Za:Ext w wr:=bg.out.ext xe.out (by have:=HP.out.base;omega)
     by_cases kr:cc=0
     ·subst kr
      have e:val aa L=n:=by have:=HV.out;have:=IT.out;omega
      have du:Calls Tryz.prog 115 #[.slice (some ⟨gx,0,none⟩) X.length X.length] wr (cg (.agg #[.int .u64 (lo n:Nat),.string (hi n)]) wr):=by have hh:=eh gx X.length L [] wr (by rw[Ct];exact aZ.out) (by omega) (by omega) l2;rw[e,l1] at hh;exact hh
      have IU:=aad du
      clear du e HV l1 l2
      go_wp2_with fail
      refine(IU.out).mono ?_
      rintro e w3 ⟨rfl,dM⟩
      have bx:=uH.ext dM
      have r0:w3.cell? ⟨w.heap.size+1+1,0,none⟩=some (.int .u64 0):=bx.cell 0
      have r1:w3.cell? ⟨w.heap.size+1+1,1,none⟩=some (.string ⟨#[]⟩):=bx.cell 1
      have f0:w3.frozen? ⟨w.heap.size+1+1,0,none⟩=false:=bx.frozen 0
      have f1:w3.frozen? ⟨w.heap.size+1+1,1,none⟩=false:=bx.frozen 1
      go_wp2
      refine fY (w.heap.size+1+1) _ _ rfl rfl ((bx.set 0 _).set 1 _) rfl ⟨rfl,?_⟩
      exact(Below.setCell (Ext.trans Za dM) (p:=⟨w.heap.size+1+1,0,none⟩) (by show _<=_;simp;omega) _).setCell (p:=⟨w.heap.size+1+1,1,none⟩) (by show _<=_;simp;omega) _
     ·obtain rfl:cc=1:=by omega
      obtain⟨i0,YF,nm,pR,xa⟩:=info_parts j5
      have kU:wr.ownsRow (w.heap.size+1+1+1) 23 1 (.slice (some ⟨gx,0,none⟩) X.length X.length) X.length (U L):=by have hh:=ED aZ.out HP.out.base (by rw[l1];unfold maxLen;omega);rw[l1] at hh;exact hh
      have e:val aa (L++[1])=n:=by rw[mh,l1];have:=HV.out;have:=IT.out;omega
      have HE:=aad e
      have HO:=aad kU
      have br:w.heap.size+1+1<wr.heap.size:=uH.lt
      clear e kU HV
      go_wp2_with (at_builtin;refine wpList_append_own _ rfl _ _ 166 rfl (w.heap.size+1+1+1) 23 i0 (.int .u64 0) 1 8 Tryz.underlying166 YF nm pR xa rfl (by decide) _ _ _ rfl (HO.out.alloc _) ⟨wr.heap.size,0,none⟩ 1 1 [.int .u64 ((1:Nat):Int)] rfl rfl ?c1 ?c2 ?c3 ?c4 ?c5 ?_)
      case c1=>
       intro j u hj
       match j,hj with
       | 0,hj=>simp at hj;subst hj;simp[Addr.add]
      case c2=>intro u hu;simp at hu;subst hu;rfl
      case c3=>unfold maxLen;omega
      case c4=>omega
      case c5=>simp;omega
      intro v' w4 jR jS _
      have du:Calls Tryz.prog 115 #[v'] w4 (cg (.agg #[.int .u64 (lo n:Nat),.string (hi n)]) w4):=by
       have e2:U L++[Value.int .u64 1]=U (L++[1]):=by simp[U]
       rw[e2] at jR;have hh:=xc w4 (xs:=L++[1]) (by simpa [l1] using jR) (by simp;omega) (l2.append (aC.cons (by unfold aa;omega) (aC.nil _)));rw[HE.out] at hh;exact hh
      have Uw:ar w4 (w.heap.size+1+1) 36 [.int .u64 0,.string ⟨#[]⟩]:=by have:=jS.block (w.heap.size+1+1) (by simp;omega) (by intro e;simp[Value.ownBlock] at e;have:=HP.out.base;omega);exact this.trans (uH.alloc _)
      have gN:Ext w w4:=by have h5:Ext w (wr.alloc (.cells #[.int .u64 ((1:Nat):Int)] 23)):=Za.alloc _;exact Below.grown h5 jS h5.size (λk hk=>by simp[Value.ownBlock] at hk;have:=HP.out.base;omega)
      have IU:=aad du
      have Bq:=aad Uw
      have xg:=aad gN
      clear du Uw gN jR jS HO l1 l2
      go_wp2_with fail
      refine(IU.out).mono ?_
      rintro e w3 ⟨rfl,dM⟩
      have bx:=Bq.out.ext dM
      have r0:w3.cell? ⟨w.heap.size+1+1,0,none⟩=some (.int .u64 0):=bx.cell 0
      have r1:w3.cell? ⟨w.heap.size+1+1,1,none⟩=some (.string ⟨#[]⟩):=bx.cell 1
      have f0:w3.frozen? ⟨w.heap.size+1+1,0,none⟩=false:=bx.frozen 0
      have f1:w3.frozen? ⟨w.heap.size+1+1,1,none⟩=false:=bx.frozen 1
      go_wp2
      refine fY (w.heap.size+1+1) _ _ rfl rfl ((bx.set 0 _).set 1 _) rfl ⟨rfl,?_⟩
      exact(Below.setCell (Ext.trans xg.out dM) (p:=⟨w.heap.size+1+1,0,none⟩) (by show _<=_;simp;omega) _).setCell (p:=⟨w.heap.size+1+1,1,none⟩) (by show _<=_;simp;omega) _
theorem IV (a b:Nat) (ha:a<aa) (hb:b<aa) (w:World) :
  Calls Tryz.prog 106 #[.agg #[.int .u64 (lo a:Nat),.string (hi a)],.agg #[.int .u64 (lo b:Nat),.string (hi b)]] w (cg (.agg #[.int .u64 (lo (a+b):Nat),.string (hi (a+b))]) w):=by
 have qc:∀W,(callFunc 148 #[.int .u64 a,.int .u64 b,.int .u64 0]).run Tryz.prog W = .ok (.value (.tuple #[.int .u64 (fu a b 0:Nat),.int .u64 (jz a b 0:Nat)])) W:=λW=>og a b W
 have hle:=py ha hb (show(0:Nat)<=1 by omega)
 have heq:=nf a b 0
 have hs:=lC a b 0
 rw[bK ha,bK hb,cB ha,cB hb]
 generalize fu a b 0=s at *
 generalize jz a b 0=c at *
 by_cases hc:c=0
 ·subst hc
  have e:a+b=s:=by omega
  rw[e,bK hs,cB hs]
  clear e heq
  go_enter Tryz.func106,Tryz.ntmps106
  go_wp2
  go_returns
  exact⟨rfl,(((Ext.refl _).alloc _).alloc _).alloc _⟩
 ·obtain rfl:c=1:=by omega
  have e:val aa [s,1]=a+b:=by simp only[ck,kN];omega
  have du:∀W,ar W (w.heap.size+1+1+1) 23 (U [s,1])->Calls Tryz.prog 115 #[.slice (some ⟨w.heap.size+1+1+1,0,none⟩) 2 2] W (cg (.agg #[.int .u64 (lo (a+b):Nat),.string (hi (a+b))]) W):=λW hB=>by have hh:=eh (w.heap.size+1+1+1) 2 [s,1] [] W (by simpa using hB) (by simp) (by simp) (aC.cons hs (aC.cons (by unfold aa;omega) (aC.nil _)));rw[e] at hh;exact hh
  have HC:=aad du
  clear du e heq
  go_enter Tryz.func106,Tryz.ntmps106
  go_wp2_with fail
  generalize hW:((w.alloc (.cells #[.int .u64 a,.string ⟨#[]⟩] 36)).alloc (.cells #[.int .u64 b,.string ⟨#[]⟩] 36)).alloc (.cells #[.int .u64 0,.string ⟨#[]⟩] 36)=W
  obtain⟨_,_,hr,hx⟩:=lB w W _ _ _ _ hW
  have br:W.heap.size=w.heap.size+1+1+1:=by rw[<-hW];simp
  have oK:=ar.new W 23 (U [s,1])
  rw[br] at oK
  refine(HC.out _ oK).mono ?_
  rintro e w3 ⟨rfl,dM⟩
  have bx:=(hr.alloc _).ext dM
  have r0:w3.cell? ⟨w.heap.size+1+1,0,none⟩=some (.int .u64 0):=bx.cell 0
  have r1:w3.cell? ⟨w.heap.size+1+1,1,none⟩=some (.string ⟨#[]⟩):=bx.cell 1
  have f0:w3.frozen? ⟨w.heap.size+1+1,0,none⟩=false:=bx.frozen 0
  have f1:w3.frozen? ⟨w.heap.size+1+1,1,none⟩=false:=bx.frozen 1
  clear br oK qc
  go_wp2
  refine fY (w.heap.size+1+1) _ _ rfl rfl ((bx.set 0 _).set 1 _) rfl ⟨rfl,?_⟩
  exact(Below.setCell (Ext.trans (hx.alloc _) dM) (p:=⟨w.heap.size+1+1,0,none⟩) (by show _<=_;simp;omega) _).setCell (p:=⟨w.heap.size+1+1,1,none⟩) (by show _<=_;simp;omega) _
theorem Ux (a b:Nat) (ha:bl a<=549755813888) (hb:bl b<=549755813888) (w:World) :
  Calls Tryz.prog 106 #[.agg #[.int .u64 (lo a:Nat),.string (hi a)],.agg #[.int .u64 (lo b:Nat),.string (hi b)]] w (cg (.agg #[.int .u64 (lo (a+b):Nat),.string (hi (a+b))]) w):=by
 rcases aV a aa with h | h
 ·rcases aV b aa with h' | h'
  ·exact IV a b h h' w
  ·exact EE a b ha hb (.inr ⟨h,h'⟩) w
 ·exact EE a b ha hb (.inl h) w
theorem sub_lt (a b:Nat) (ha:bl a<=549755813888) (hb:bl b<=549755813888) (h:a<b) (w:World) :
  Calls Tryz.prog 107 #[.agg #[.int .u64 (lo a:Nat),.string (hi a)],.agg #[.int .u64 (lo b:Nat),.string (hi b)]] w (cg (.tuple #[.agg #[.int .u64 (lo 0:Nat),.string (hi 0)],.bool false]) w):=by
 have e1:lo 0=0:=rfl
 have e2:hi 0=⟨#[]⟩:=bK (by unfold aa;omega)
 rw[e1,e2]
 have HC:=aad (λW=>lf a b ha hb W)
 rw[di h] at HC
 generalize hi a=sa at *
 generalize hi b=sb at *
 generalize lo a=la at *
 generalize lo b=lb at *
 clear e1 e2
 go_enter Tryz.func107,Tryz.ntmps107
 go_wp2_with fail
 generalize hW:((w.alloc (.cells #[.int .u64 la,.string sa] 36)).alloc (.cells #[.int .u64 lb,.string sb] 36)).alloc (.cells #[.int .u64 0,.string ⟨#[]⟩] 36)=W
 obtain⟨_,_,hr,hx⟩:=lB w W _ _ _ _ hW
 clear hW
 refine(HC.out _).mono ?_
 rintro e w3 ⟨rfl,dM⟩
 have bx:=hr.ext dM
 have r0:w3.cell? ⟨w.heap.size+1+1,0,none⟩=some (.int .u64 0):=bx.cell 0
 have r1:w3.cell? ⟨w.heap.size+1+1,1,none⟩=some (.string ⟨#[]⟩):=bx.cell 1
 have f0:w3.frozen? ⟨w.heap.size+1+1,0,none⟩=false:=bx.frozen 0
 have f1:w3.frozen? ⟨w.heap.size+1+1,1,none⟩=false:=bx.frozen 1
 go_wp2
 refine sK (w.heap.size+1+1) _ _ _ rfl rfl rfl ((bx.set 0 _).set 1 _) rfl ⟨rfl,?_⟩
 exact(Below.setCell (Ext.trans hx dM) (p:=⟨w.heap.size+1+1,0,none⟩) (by show _<=_;simp;omega) _).setCell (p:=⟨w.heap.size+1+1,1,none⟩) (by show _<=_;simp;omega) _
theorem mQ {a b:Nat} (h:b<=a):0<=bG a b:=by
 rcases aV b a with h' | h'
 ·rw[dB h'];omega
 ·obtain rfl:a=b:=by omega
  rw[vE];omega
theorem IW (a b:Nat) (ha:a<aa) (h:b<=a) (w:World) :
  Calls Tryz.prog 107 #[.agg #[.int .u64 (lo a:Nat),.string (hi a)],.agg #[.int .u64 (lo b:Nat),.string (hi b)]] w (cg (.tuple #[.agg #[.int .u64 (lo (a-b):Nat),.string (hi (a-b))],.bool true]) w):=by
 have hb:b<aa:=by omega
 have ko:bl a<=64:=fO ha
 have cX:bl b<=64:=fO hb
 have HC:=aad (λW=>lf a b (by omega) (by omega) W)
 have iU:=mQ h
 rw[bK ha,bK hb,cB ha,cB hb] at *
 rw[bK (show a-b<aa by omega),cB (show a-b<aa by omega)]
 generalize bG a b=c at *
 have kZ:(0:Int)<=(a:Int)-(b:Int):=by omega
 have hd2:(a:Int)-(b:Int)<18446744073709551616:=by unfold aa at ha;omega
 have hd3:(a:Int)-(b:Int)=((a-b:Nat):Int):=by omega
 have HD:=aad hd3
 clear hd3
 go_enter Tryz.func107,Tryz.ntmps107
 go_wp2_with fail
 generalize hW:((w.alloc (.cells #[.int .u64 a,.string ⟨#[]⟩] 36)).alloc (.cells #[.int .u64 b,.string ⟨#[]⟩] 36)).alloc (.cells #[.int .u64 0,.string ⟨#[]⟩] 36)=W
 obtain⟨bn,cF,hr,hx⟩:=lB w W _ _ _ _ hW
 clear hW
 refine(HC.out _).mono ?_
 rintro e w3 ⟨rfl,dM⟩
 have bx:=hr.ext dM
 have r0:w3.cell? ⟨w.heap.size+1+1,0,none⟩=some (.int .u64 0):=bx.cell 0
 have r1:w3.cell? ⟨w.heap.size+1+1,1,none⟩=some (.string ⟨#[]⟩):=bx.cell 1
 have f0:w3.frozen? ⟨w.heap.size+1+1,0,none⟩=false:=bx.frozen 0
 have f1:w3.frozen? ⟨w.heap.size+1+1,1,none⟩=false:=bx.frozen 1
 have a0:w3.cell? ⟨w.heap.size,0,none⟩=some (.int .u64 a):=(bn.ext dM).cell 0
 have a1:w3.cell? ⟨w.heap.size,1,none⟩=some (.string ⟨#[]⟩):=(bn.ext dM).cell 1
 have b0:w3.cell? ⟨w.heap.size+1,0,none⟩=some (.int .u64 b):=(cF.ext dM).cell 0
 go_wp2
 refine sK (w.heap.size+1+1) _ _ _ rfl rfl rfl ((bx.set 0 _).set 1 _) rfl ⟨?_,?_⟩
 ·rw[HD.out];rfl
 ·exact(Below.setCell (Ext.trans hx dM) (p:=⟨w.heap.size+1+1,0,none⟩) (by show _<=_;simp;omega) _).setCell (p:=⟨w.heap.size+1+1,1,none⟩) (by show _<=_;simp;omega) _
theorem oW {a b:Nat} (h:b<=a):(af aa b).length<=(af aa a).length:=by
 rcases aV (af aa a).length (af aa b).length with h' | h'
 ·have:=fw an h';omega
 ·exact h'
theorem Uy (a b:Nat) (ha:bl a<=549755813888) (hb:bl b<=549755813888) (cT:aa<=a) (h:b<=a) (w:World) :
  Calls Tryz.prog 107 #[.agg #[.int .u64 (lo a:Nat),.string (hi a)],.agg #[.int .u64 (lo b:Nat),.string (hi b)]] w (cg (.tuple #[.agg #[.int .u64 (lo (a-b):Nat),.string (hi (a-b))],.bool true]) w):=by
 have HC:=aad (λW=>lf a b ha hb W)
 have iU:=mQ h
 have h1:=iz cT
 have HA:Hid (∀W,Calls Tryz.prog 117 #[.agg #[.int .u64 (lo a:Nat),.string (hi a)]] W (cA (fy W.heap.size (af aa a)) W)):=aad (λW=>fC a ha W)
 have HB:Hid (∀W,Calls Tryz.prog 117 #[.agg #[.int .u64 (lo b:Nat),.string (hi b)]] W (cA (fy W.heap.size (af aa b)) W)):=aad (λW=>fC b hb W)
 generalize qM:hi a=sa at *
 generalize IS:hi b=sb at *
 generalize jh:lo a=la at *
 generalize kh:lo b=lb at *
 generalize bG a b=cc at *
 clear qM IS jh kh
 go_enter Tryz.func107,Tryz.ntmps107
 go_wp2_with fail
 generalize hW:((w.alloc (.cells #[.int .u64 la,.string sa] 36)).alloc (.cells #[.int .u64 lb,.string sb] 36)).alloc (.cells #[.int .u64 0,.string ⟨#[]⟩] 36)=W0
 obtain⟨p6,p7,rX,rY⟩:=lB w W0 _ _ _ _ hW
 clear hW
 refine(HC.out _).mono ?_
 rintro e W ⟨rfl,Uz⟩
 replace p6:=p6.ext Uz
 replace p7:=p7.ext Uz
 replace rX:=rX.ext Uz
 replace rY:=rY.trans Uz
 clear Uz HC
 have kr:W.cell? ⟨w.heap.size,0,none⟩=some (.int .u64 la):=p6.cell 0
 have cU:W.cell? ⟨w.heap.size,1,none⟩=some (.string sa):=p6.cell 1
 have ks:W.cell? ⟨w.heap.size+1,0,none⟩=some (.int .u64 lb):=p7.cell 0
 have kZ:W.cell? ⟨w.heap.size+1,1,none⟩=some (.string sb):=p7.cell 1
 go_wp2
 go_region_held3 (λw'=>w'.cell? ⟨w.heap.size,0,none⟩=some (.int .u64 la)/\w'.cell? ⟨w.heap.size,1,none⟩=some (.string sa)/\w'.cell? ⟨w.heap.size+1,0,none⟩=some (.int .u64 lb)/\w'.cell? ⟨w.heap.size+1,1,none⟩=some (.string sb))
  (first | exact⟨kr,cU,ks,kZ⟩ | exact⟨dL.ak kr,dL.ak cU,dL.ak ks,dL.ak kZ⟩ | exact⟨(dL.trans jk).ak kr,(dL.trans jk).ak cU,(dL.trans jk).ak ks,(dL.trans jk).ak kZ⟩)
  (first | (go_at_call_of 117 (Value.string sa);refine(HA.out _).mono ?_;rintro e w1 ⟨v1,rfl,hf1,dL⟩) | (go_at_call_of 117 (Value.string sb);refine(HB.out _).mono ?_;rintro e w2 ⟨v2,rfl,EF,jk⟩))
 obtain⟨A1,c1,rfl,fj⟩:=jG hf1
 obtain⟨A2,c2,rfl,jv⟩:=jG EF
 have jh:=dJ a ha
 have kh:=dJ b hb
 have Uq:af aa a≠[]:=λe=>by have:=(ay0 an).1 e;unfold aa at cT;omega
 obtain⟨gx,ki,rfl,rfl,Dy⟩:=fj Uq
 have Us:ar w2 (w.heap.size+1+1) 36 [.int .u64 0,.string ⟨#[]⟩]:=rX.ext (dL.pH.trans jk)
 have Ut:Ext w w2:=rY.trans (dL.pH.trans jk)
 have br:w.heap.size+1+1<W.heap.size:=rX.lt
 have hp:Up w2 (w.heap.size+1+1+1) gx (af aa a) (af aa b) A2:=by refine⟨Dy.ext jk,dz br ki,oW h,jh,aL an a,aL an b,λay=>?_⟩;obtain⟨g2,uI,_,rfl,Dz⟩:=jv ay;have:=Dy.lt;exact⟨g2,rfl,by omega,Dz⟩
 have xd:val aa (af aa a)=(a-b)+val aa (af aa b):=by rw[amE an,amE an];omega
 have gH:=hp.lx
 have lA:=hp.le
 have HP:=aad hp
 have IT:=aad xd
 clear hf1 EF fj jv dL jk p6 p7 rX rY kr cU ks kZ Uq Dy HA HB ha hb h1 h ki jh kh br hp xd cT
 generalize af aa a=X at *
 generalize af aa b=Y at *
 generalize a-b=n at *
 generalize A2=A at *
 have Uk:=aad Us
 have xe:=aad Ut
 clear Us Ut
 go_wp2
 go_loopw [8,31] (λc i wr=>∃(k cc:Nat) (L:List Nat),k<=X.length/\cc<=1/\i = .int .i64 k/\c = .int .u64 cc/\Hid (L.length=X.length/\aC aa L/\L.drop k=X.drop k/\val aa (X.take k)+cc*aa^k=val aa (L.take k)+val aa (Y.take k))/\Hid (ar wr gx 23 (U L))/\Hid (bS gx w2 wr)) (λ_ i _=>X.length-(intOf i).toNat)
 case atStart=>refine⟨0,0,X,ia _,by omega,rfl,rfl,aad ⟨rfl,HP.out.dx,rfl,by simp⟩,aad HP.out.kO,aad (bS.refl _ _)⟩
 case round=>
  obtain⟨k,cc,L,hk,cG,rfl,rfl,hL,aZ,bg⟩:=hrel
  by_cases dq:k<X.length
  ·have ez:wr.cell? ⟨gx,k,none⟩=some (.int .u64 (X.getD k 0:Nat)):=by
    rw[aZ.out.cell k,bQ _ _ (by rw[hL.out.1];exact dq),jT hL.out.2.2.1 dq hL.out.1]
   have TX:wr.frozen? ⟨gx,k,none⟩=false:=aZ.out.frozen k
   have bw:X.getD k 0<aa:=HP.out.dx.getD (by unfold aa;omega) k
   have de:Y.getD k 0<aa:=HP.out.dy.getD (by unfold aa;omega) k
   have oV:∀s q,X.getD k 0+aa*q=Y.getD k 0+cc+s->s<aa->(L.set k s).length=X.length/\aC aa (L.set k s)/\(L.set k s).drop (k+1)=X.drop (k+1)/\val aa (X.take (k+1))+q*aa^(k+1)=val aa ((L.set k s).take (k+1))+val aa (Y.take (k+1)):=by
    intro s q e hs;obtain⟨l1,l2,l3,l4⟩:=hL.out;refine⟨by simpa using l1,l2.set k hs,?_,?_⟩
    ·rw[eb,<-EX,<-EX,l3]
    ·rw[gP _ _ _ _ (by omega),aD aa X,aD aa Y,jV];exact sQ l4 e
   have HS:=aad oV
   have hY:k<Y.length->∃gy,A=some ⟨gy,0,none⟩/\wr.cell? ⟨gy,k,none⟩=some (.int .u64 (Y.getD k 0:Nat)):=λkW=>by obtain⟨gy,h1,h2,h3⟩:=HP.out.other (λe=>by rw[e] at kW;simp at kW);exact⟨gy,h1,by rw[(bg.out.kO h3 h2).cell k,bQ _ _ kW]⟩
   have EG:¬k<Y.length->Y.getD k 0=0:=λh=>jy _ _ (by omega)
   have HY:=aad hY
   have xf:=aad EG
   clear oV hY EG
   generalize X.getD k 0=x at *
   by_cases kW:k<Y.length
   ·obtain⟨gy,rfl,mP⟩:=HY.out kW
    clear xf
    generalize Y.getD k 0=y at *
    have qc:∀W,(callFunc 149 #[.int .u64 x,.int .u64 y,.int .u64 cc]).run Tryz.prog W = .ok (.value (.tuple #[.int .u64 (pQ x y cc:Nat),.int .u64 (oe x y cc:Nat)])) W:=λW=>sM x y cc cG W
    go_wp2
    go_roundw
    case rel=>exact⟨k+1,oe x y cc,L.set k (pQ x y cc),by omega,pA x y cc,by go_num,rfl,aad (HS.out _ _ (sN bw de cG) (pz x y cc)),aad (by rw[<-avy];exact aZ.out.set k _),aad (bg.out.set k _)⟩
    case measure=>simp[intOf];omega
   ·have jE:=xf.out kW
    rw[jE] at HS
    clear HY xf jE de
    have qc:∀W,(callFunc 149 #[.int .u64 x,.int .u64 0,.int .u64 cc]).run Tryz.prog W = .ok (.value (.tuple #[.int .u64 (pQ x 0 cc:Nat),.int .u64 (oe x 0 cc:Nat)])) W:=λW=>sM x 0 cc cG W
    go_wp2
    go_roundw
    case rel=>exact⟨k+1,oe x 0 cc,L.set k (pQ x 0 cc),by omega,pA x 0 cc,by go_num,rfl,aad (HS.out _ _ (sN bw (by unfold aa;omega) cG) (pz x 0 cc)),aad (by rw[<-avy];exact aZ.out.set k _),aad (bg.out.set k _)⟩
    case measure=>simp[intOf];omega
  ·obtain rfl:k=X.length:=by omega
   obtain⟨l1,l2,l3,l4⟩:=hL.out
   have fV:val aa X+cc*aa^X.length=val aa L+val aa Y:=by rw[qY,jo (l:=L) (by omega),jo lA] at l4;exact l4
   have e:val aa L=n:=by
    have h1:=IT.out;have h2:=cl l2;rw[l1] at h2;rcases gA cc with h0 | h0
    ·subst h0;omega
    ·obtain rfl:cc=1:=by omega
     omega
   have uH:ar wr (w.heap.size+1+1) 36 [.int .u64 0,.string ⟨#[]⟩]:=bg.out.kO Uk.out (by have:=HP.out.base;omega)
   have Za:Ext w wr:=bg.out.ext xe.out (by have:=HP.out.base;omega)
   have du:Calls Tryz.prog 115 #[.slice (some ⟨gx,0,none⟩) X.length X.length] wr (cg (.agg #[.int .u64 (lo n:Nat),.string (hi n)]) wr):=by have hh:=eh gx X.length L [] wr (by rw[Ct];exact aZ.out) (by omega) (by omega) l2;rw[e,l1] at hh;exact hh
   have IU:=aad du
   clear du e l1 l2 l3 l4 fV hL
   go_wp2_with fail
   refine(IU.out).mono ?_
   rintro e w3 ⟨rfl,dM⟩
   have bx:=uH.ext dM
   have r0:w3.cell? ⟨w.heap.size+1+1,0,none⟩=some (.int .u64 0):=bx.cell 0
   have r1:w3.cell? ⟨w.heap.size+1+1,1,none⟩=some (.string ⟨#[]⟩):=bx.cell 1
   have f0:w3.frozen? ⟨w.heap.size+1+1,0,none⟩=false:=bx.frozen 0
   have f1:w3.frozen? ⟨w.heap.size+1+1,1,none⟩=false:=bx.frozen 1
   go_wp2
   refine sK (w.heap.size+1+1) _ _ _ rfl rfl rfl ((bx.set 0 _).set 1 _) rfl ⟨rfl,?_⟩
   exact(Below.setCell (Ext.trans Za dM) (p:=⟨w.heap.size+1+1,0,none⟩) (by show _<=_;simp;omega) _).setCell (p:=⟨w.heap.size+1+1,1,none⟩) (by show _<=_;simp;omega) _
theorem Zb (a b:Nat) (ha:bl a<=549755813888) (hb:bl b<=549755813888) (h:b<=a) (w:World) :
  Calls Tryz.prog 107 #[.agg #[.int .u64 (lo a:Nat),.string (hi a)],.agg #[.int .u64 (lo b:Nat),.string (hi b)]] w (cg (.tuple #[.agg #[.int .u64 (lo (a-b):Nat),.string (hi (a-b))],.bool true]) w):=by
 rcases aV a aa with h' | h'
 ·exact IW a b h' h w
 ·exact Uy a b ha hb h' h w
def Rd (w:World) (xs:List Nat) (v:Value):Prop:=∃A c,v = .slice A xs.length c/\(xs≠[]->∃g off,A=some ⟨g,off,none⟩/\g<w.heap.size/\∀i,i<xs.length->w.cell? ⟨g,off+i,none⟩=some (.int .u64 (xs.getD i 0:Nat)))
theorem fy.rd {base:Nat} {xs:List Nat} {v:Value} {w:World} (h:fy base xs v w):Rd w xs v:=by
 rcases h with ⟨rfl,rfl⟩ | ⟨g,_,rfl,hb⟩
 ·exact⟨none,0,rfl,λh=>absurd rfl h⟩
 ·exact⟨_,_,rfl,λ_=>⟨g,0,rfl,hb.lt,λi hi=>by rw[kJ,hb.cell i,bQ _ _ hi]⟩⟩
theorem nz (v:Value) (xs:List Nat) (n:Nat) (w:World) (hr:Rd w xs v) (hx:xs.length<=8589934593) (hn:n<=549755813888) (hd:aC aa xs) :
  Calls Tryz.prog 176 #[v,.int .i64 n] w (cA (λv' w'=>∃ys,ys.length=xs.length+n/64+1/\aC aa ys/\val aa ys=val aa xs*2^n/\fy w.heap.size ys v' w') w):=by
 obtain⟨A,c,rfl,hh⟩:=hr
 have HH:=aad hh
 clear hh
 go_enter Tryz.func176,Tryz.ntmps176
 go_wp2_with (at_make;refine cb _ rfl (.tmp 19) (.tmp 19) 166 23 rfl (.int .u64 0) 8 Tryz.underlying166 j5 rfl .i64 .i64 _ _ (xs.length+n/64+1) rfl rfl ?c1 ?c1' ?c2 ?c3 ?_)
 case c1=>omega
 case c1'=>omega
 case c2=>omega
 case c3=>omega
 intro w1 bU eo bn
 rw[qm] at bn
 have HX:=aad bU
 have HB:=aad bn
 clear bU bn
 go_wp2
 go_loopw [23] (λi wr=>∃(k:Nat) (L:List Nat),k<=xs.length/\i = .int .i64 k/\Hid (qJ xs n k L)/\Hid (ar wr w.heap.size 23 (U L))/\Hid (bS w.heap.size w1 wr)) (λi _=>xs.length-(intOf i).toNat)
 case atStart=>exact⟨0,List.replicate (xs.length+n/64+1) 0,ia _,rfl,aad (qJ.start xs n),aad HB.out,aad (bS.refl _ _)⟩
 case round=>
  obtain⟨k,L,hk,rfl,hL,aZ,bg⟩:=hrel
  by_cases dq:k<xs.length
  ·obtain⟨g,off,rfl,hg,aK⟩:=HH.out (λe=>by rw[e] at dq;simp at dq)
   have ez:wr.cell? ⟨g,off+k,none⟩=some (.int .u64 (xs.getD k 0:Nat)):=by have h1:=HX.out.ak (aK k dq);have h2:g<w.heap.size:=hg;rw[<-h1];exact World.cell?_of_block (bg.out.block g (by have:=HX.out.size;omega) (λe=>by injection e with e;omega))
   have hlen:=hL.out.len
   have cU:wr.cell? ⟨w.heap.size,k+n/64,none⟩=some (.int .u64 (L.getD (k+n/64) 0:Nat)):=by rw[aZ.out.cell,bQ _ _ (by omega)]
   have hc2:wr.cell? ⟨w.heap.size,k+n/64+1,none⟩=some (.int .u64 (L.getD (k+n/64+1) 0:Nat)):=by rw[aZ.out.cell,bQ _ _ (by omega)]
   have hf1:wr.frozen? ⟨w.heap.size,k+n/64,none⟩=false:=aZ.out.frozen _
   have EF:wr.frozen? ⟨w.heap.size,k+n/64+1,none⟩=false:=aZ.out.frozen _
   have bw:xs.getD k 0<aa:=hd.getD (by unfold aa;omega) k
   clear aK hlen
   have mj:=hL.out.low
   have xh:=hL.out.step dq hd
   have HN:=aad xh
   clear xh
   generalize xs.getD k 0=x at *
   generalize L.getD (k+n/64) 0=o at *
   generalize L.getD (k+n/64+1) 0=o2 at *
   have aee:=aad mj
   clear mj
   go_wp2
   rw[rS (by omega) aee.out,Em]
   refine⟨⟨k+1,_,by omega,by go_num,HN,?_,?_⟩,by simp[intOf];omega⟩
   ·have h:=(aZ.out.set (k+n/64) (.int .u64 (oN o x (n%64):Nat))).set (k+n/64+1) (.int .u64 (oO x (n%64):Nat))
    rw[avy,avy] at h
    exact aad h
   ·exact aad ((bg.out.set _ _).set _ _)
  ·obtain rfl:k=xs.length:=by omega
   go_wp2
   go_ret
   have hu:=hL.out
   refine⟨_,rfl,⟨L,hu.len,hu.bP,?_,.inr ⟨w.heap.size,bX _,?_,aZ.out⟩⟩,bg.out.ext HX.out (bX _)⟩
   ·rw[hu.val,qY]
   ·rw[hu.len];rfl
theorem yI (v1 v2:Value) (xs ys:List Nat) (w:World) (Y4:Rd w xs v1) (nY:Rd w ys v2) (hx:xs.length<=8589934593) (hy:ys.length<=8589934593) (kZ:aC aa xs) (hd2:aC aa ys) :
  Calls Tryz.prog 116 #[v1,v2] w (cA (λv' w'=>∃zs,zs.length=xs.length+ys.length/\aC aa zs/\val aa zs=val aa xs*val aa ys/\fy w.heap.size zs v' w') w):=by
 obtain⟨A,c,rfl,hh⟩:=Y4
 obtain⟨A',c',rfl,qN⟩:=nY
 have HH:=aad hh
 have IX:=aad qN
 clear hh qN
 go_enter Tryz.func116,Tryz.ntmps116
 go_wp2_with (at_make;refine cb _ rfl (.tmp 19) (.tmp 19) 166 23 rfl (.int .u64 0) 8 Tryz.underlying166 j5 rfl .i64 .i64 _ _ (xs.length+ys.length) rfl rfl ?c1 ?c1' ?c2 ?c3 ?_)
 case c1=>omega
 case c1'=>omega
 case c2=>omega
 case c3=>omega
 intro w1 bU eo bn
 rw[qm] at bn
 have HX:=aad bU
 have HB:=aad bn
 clear bU bn
 go_wp2
 go_loopw [23] (λi wr=>∃(k:Nat) (L:List Nat),k<=xs.length/\i = .int .i64 k/\Hid (eY xs ys k L)/\Hid (ar wr w.heap.size 23 (U L))/\Hid (bS w.heap.size w1 wr)) (λi _=>xs.length-(intOf i).toNat)
 case atStart=>exact⟨0,_,ia _,rfl,aad (eY.start xs ys),aad HB.out,aad (bS.refl _ _)⟩
 case round=>
  obtain⟨k,L,hk,rfl,hL,aZ,bg⟩:=hrel
  by_cases dq:k<xs.length
  ·obtain⟨g,off,rfl,hg,aK⟩:=HH.out (λe=>by rw[e] at dq;simp at dq)
   have ez:wr.cell? ⟨g,off+k,none⟩=some (.int .u64 (xs.getD k 0:Nat)):=by rw[<-HX.out.ak (aK k dq)];exact World.cell?_of_block (bg.out.block g (by have:=HX.out.size;omega) (λe=>by injection e with e;omega))
   have bw:xs.getD k 0<aa:=kZ.getD (by unfold aa;omega) k
   clear aK
   have hin:=hL.out.inner
   have UA:=aad hin
   clear hin hL
   generalize lP:xs.getD k 0=x at *
   have Ul:=aad lP
   clear lP
   go_wp2
   obtain⟨wo,rfl⟩:∃wo:World,wo=wr:=⟨_,rfl⟩
   go_loopw [8,30] (λc i wr=>∃(j cc:Nat) (L:List Nat),j<=ys.length/\i = .int .i64 j/\c = .int .u64 cc/\cc<aa/\Hid (gY xs ys k j cc L)/\Hid (ar wr w.heap.size 23 (U L))/\Hid (bS w.heap.size w1 wr)) (λ_ i _=>ys.length-(intOf i).toNat)
   case atStart=>exact⟨0,0,L,ia _,rfl,rfl,by unfold aa;omega,UA,aZ,bg⟩
   case round=>
    clear aZ bg UA ez
    obtain⟨j,cc,L,hj,rfl,rfl,cG,hL,aZ,bg⟩:=hrel
    by_cases ld:j<ys.length
    ·obtain⟨g',fI,rfl,fc,fU⟩:=IX.out (λe=>by rw[e] at ld;simp at ld)
     have mP:wr.cell? ⟨g',fI+j,none⟩=some (.int .u64 (ys.getD j 0:Nat)):=by rw[<-HX.out.ak (fU j ld)];exact World.cell?_of_block (bg.out.block g' (by have:=HX.out.size;omega) (λe=>by injection e with e;omega))
     have de:ys.getD j 0<aa:=hd2.getD (by unfold aa;omega) j
     have hlen:=hL.out.len
     have yJ:wr.cell? ⟨w.heap.size,k+j,none⟩=some (.int .u64 (L.getD (k+j) 0:Nat)):=by rw[aZ.out.cell,bQ _ _ (by omega)]
     have pT:wr.frozen? ⟨w.heap.size,k+j,none⟩=false:=aZ.out.frozen _
     have ft:L.getD (k+j) 0<aa:=hL.out.bP.getD (by unfold aa;omega) _
     have cR:=λ(s q:Nat) (hs:s<aa) (e:s+aa*q=xs.getD k 0*ys.getD j 0+L.getD (k+j) 0+cc)=>hL.out.step dq ld hs e
     rw[Ul.out] at cR
     have yK:=aad cR
     clear cR fU hlen
     generalize ys.getD j 0=y at *
     generalize L.getD (k+j) 0=o at *
     have e1:=AN x y
     have e2:=nf (fD x y) o 0
     have e3:=nf (fu (fD x y) o 0) cc 0
     rw[qX] at e2 e3
     have jY:=En e1 e2 e3
     have hq:=vj bw de ft cG jY
     have jO:=lC (fu (fD x y) o 0) cc 0
     have ha1:∀W,(callFunc 148 #[.int .u64 (fD x y:Nat),.int .u64 o,.int .u64 0]).run Tryz.prog W = .ok (.value (.tuple #[.int .u64 (fu (fD x y) o 0:Nat),.int .u64 (jz (fD x y) o 0:Nat)])) W:=λW=>og _ _ W
     have ha2:∀W,(callFunc 148 #[.int .u64 (fu (fD x y) o 0:Nat),.int .u64 cc,.int .u64 0]).run Tryz.prog W = .ok (.value (.tuple #[.int .u64 (fu (fu (fD x y) o 0) cc 0:Nat),.int .u64 (jz (fu (fD x y) o 0) cc 0:Nat)])) W:=λW=>og _ _ W
     have HM:=aad (λW=>ng x y bw de W)
     have xh:=yK.out _ _ jO jY
     have HN:=aad xh
     clear e1 e2 e3 jY yK xh
     generalize jz (fu (fD x y) o 0) cc 0=c2 at *
     generalize fu (fu (fD x y) o 0) cc 0=s2 at *
     generalize jz (fD x y) o 0=c1 at *
     generalize fu (fD x y) o 0=s1 at *
     generalize uD x y=hh at *
     generalize fD x y=ll at *
     have b1:(hh:Int)+(c1:Int)<=18446744073709551615:=by unfold aa at hq;omega
     have b2:(hh:Int)+(c1:Int)+(c2:Int)<=18446744073709551615:=by unfold aa at hq;omega
     go_wp2_with fail
     refine(HM.out _).mono ?_
     rintro e w' ⟨rfl,rfl⟩
     go_wp2
     go_roundw
     case rel=>refine⟨j+1,hh+c1+c2,L.set (k+j) s2,by omega,by go_num,by go_num,hq,HN,aad (by rw[<-avy];exact aZ.out.set _ _),aad (bg.out.set _ _)⟩
     case measure=>simp[intOf];omega
    ·obtain rfl:j=ys.length:=by omega
     have hlen:=hL.out.len
     have yJ:wr.cell? ⟨w.heap.size,k+ys.length,none⟩=some (.int .u64 (L.getD (k+ys.length) 0:Nat)):=by rw[aZ.out.cell,bQ _ _ (by omega)]
     have pT:wr.frozen? ⟨w.heap.size,k+ys.length,none⟩=false:=aZ.out.frozen _
     have yD:=hL.out.close dq cG
     have Ey:=aad yD
     generalize L.getD (k+ys.length) 0=o at *
     clear yD hlen
     go_wp2
     go_roundw
     case rel=>exact⟨k+1,L.set (k+ys.length) cc,by omega,by go_num,Ey,aad (by rw[<-avy];exact aZ.out.set _ _),aad (bg.out.set _ _)⟩
     case measure=>simp[intOf];omega
  ·obtain rfl:k=xs.length:=by omega
   go_wp2
   go_ret
   have hu:=hL.out
   refine⟨_,rfl,⟨L,hu.len,hu.bP,?_,.inr ⟨w.heap.size,bX _,?_,aZ.out⟩⟩,bg.out.ext HX.out (bX _)⟩
   ·rw[hu.val,qY]
   ·rw[hu.len];rfl
def Mw (n l:Nat) (v:Value) (w:World):Prop:=∃zs base,zs.length<=l/\aC aa zs/\val aa zs=n/\fy base zs v w
theorem Mw.ext {n l:Nat} {v:Value} {w w':World} (h:Mw n l v w) (e:Ext w w'):Mw n l v w':=by obtain⟨zs,base,h1,h2,h3,h4⟩:=h;exact⟨zs,base,h1,h2,h3,h4.ext e⟩
theorem js {n l:Nat} {v:Value} (w:World) (h:Mw n l v w) (hl:l<=10000000000) :
  Calls Tryz.prog 115 #[v] w (cg (.agg #[.int .u64 (lo n:Nat),.string (hi n)]) w):=by
 obtain⟨zs,base,h1,h2,h3,h4⟩:=h
 have:=tl w h4 (by omega) h2
 rwa [h3] at this
theorem O4 (n:Nat) (hn:bl n<=549755813888) (w:World) :
  Calls Tryz.prog 117 #[.agg #[.int .u64 (lo n:Nat),.string (hi n)]] w (cA (Mw n 8589934593) w):=
 (fC n hn w).mono λ_ _ ⟨v,he,hf,hx⟩=>⟨v,he,⟨_,_,dJ n hn,aL an n,amE an n,hf⟩,hx⟩
theorem Br {a b l1 l2:Nat} {v1 v2:Value} (w:World) (h1:Mw a l1 v1 w) (h2:Mw b l2 v2 w) (ta:l1<=8589934593) (pX:l2<=8589934593) :
  Calls Tryz.prog 116 #[v1,v2] w (cA (Mw (a*b) (l1+l2)) w):=by
 obtain⟨xs,base,r1,r2,r3,r4⟩:=h1
 obtain⟨ys,agK,s1,s2,s3,s4⟩:=h2
 refine(yI v1 v2 xs ys w r4.rd s4.rd (by omega) (by omega) r2 s2).mono ?_
 rintro e w' ⟨v,rfl,⟨zs,t1,t2,t3,t4⟩,hx⟩
 exact⟨v,rfl,⟨zs,_,by omega,t2,by rw[t3,r3,s3],t4⟩,hx⟩
theorem EH (a b:Nat) (ha:bl a<=274877906944) (hb:bl b<=274877906944) (h:aa<=a\/(a<aa/\aa<=b)) (w:World) :
  Calls Tryz.prog 62 #[.agg #[.int .u64 (lo a:Nat),.string (hi a)],.agg #[.int .u64 (lo b:Nat),.string (hi b)]] w (cg (.agg #[.int .u64 (lo (a*b):Nat),.string (hi (a*b))]) w):=by
 have hg:(hi a).toList.isEmpty=false\/((hi a).toList.isEmpty=true/\(hi b).toList.isEmpty=false):=by
  rcases h with h | ⟨h0,h⟩
  ·exact .inl (iz h)
  ·exact .inr ⟨by rw[bK h0,Lib.toList_data];rfl,iz h⟩
 have hwa:∀W,Calls Tryz.prog 117 #[.agg #[.int .u64 (lo a:Nat),.string (hi a)]] W (cA (Mw a 4294967297) W):=λW=>(fC a (by omega) W).mono λ_ _ ⟨v,he,hf,hx⟩=>⟨v,he,⟨_,_,by have:=kA a;omega,aL an a,amE an a,hf⟩,hx⟩
 have hwb:∀W,Calls Tryz.prog 117 #[.agg #[.int .u64 (lo b:Nat),.string (hi b)]] W (cA (Mw b 4294967297) W):=λW=>(fC b (by omega) W).mono λ_ _ ⟨v,he,hf,hx⟩=>⟨v,he,⟨_,_,by have:=kA b;omega,aL an b,amE an b,hf⟩,hx⟩
 have HA:=aad hwa
 have HB:=aad hwb
 clear hwa hwb h
 generalize hi a=sa at *
 generalize hi b=sb at *
 generalize lo a=la at *
 generalize lo b=lb at *
 rcases hg with h1 | ⟨h1,h1'⟩
 all_goals
  go_enter Tryz.func62,Tryz.ntmps62
  go_wp2
  generalize hW:((w.alloc (.cells #[.int .u64 la,.string sa] 36)).alloc (.cells #[.int .u64 lb,.string sb] 36)).alloc (.cells #[.int .u64 0,.string ⟨#[]⟩] 36)=W
  obtain⟨p6,p7,rX,rY⟩:=lB w W _ _ _ _ hW
  clear hW
  refine iu vz 6 [λv _=>v = .agg #[.int .u64 la,.string sa],Mw a 4294967297,λv _=>v = .agg #[.int .u64 lb,.string sb],Mw b 4294967297,Mw (a*b) (4294967297+4294967297),λv _=>v = .agg #[.int .u64 (lo (a*b):Nat),.string (hi (a*b))]] (by kernel_rfl) (by kernel_rfl) ?hG ?hQ ⟨λh=>(by cases h),λ_=>?o0,λh=>(by cases h),λ_=>?o1,λh=>(by cases h),λ_=>?o2,λh=>(by cases h),λ_=>?o3,λh=>(by cases h),λ_=>?o4,λh=>(by cases h),λ_=>?o5,trivial⟩ ?fin
  case hG=>
   intro g hg
   simp at hg
   rcases hg with rfl | rfl | rfl | rfl | rfl | rfl
   all_goals first | exact λ_ _ _ _ h=>h | exact λ_ _ _ e h=>h.ext e
  case hQ=>exact λc a w d v h=>by cases d<;>exact h
  case o0=>
   intro v w' hw hj
   have c0:w'.cell? ⟨w.heap.size,0,none⟩=some (.int .u64 la):=(p6.ext hw).cell 0
   have c1:w'.cell? ⟨w.heap.size,1,none⟩=some (.string sa):=(p6.ext hw).cell 1
   simp[aqo]
   go_wp2
   exact⟨rfl,rfl,Ext.refl _,λd hd=>by cases hd;rfl⟩
  case o1=>
   intro v w' hw hj
   have e0:v 0 = .agg #[.int .u64 la,.string sa]:=hj 0 (by kernel_rfl)
   simp[aqo,Act.put,e0]
   go_wp2_with fail
   refine(HA.out _).mono ?_
   rintro e w2 ⟨u,rfl,h1,h2⟩
   go_wp2
   exact⟨rfl,rfl,h2,λd hd=>by cases hd;exact h1⟩
  case o2=>
   intro v w' hw hj
   have c0:w'.cell? ⟨w.heap.size+1,0,none⟩=some (.int .u64 lb):=(p7.ext hw).cell 0
   have c1:w'.cell? ⟨w.heap.size+1,1,none⟩=some (.string sb):=(p7.ext hw).cell 1
   simp[aqo,Act.put]
   go_wp2
   exact⟨rfl,rfl,Ext.refl _,λd hd=>by cases hd;rfl⟩
  case o3=>
   intro v w' hw hj
   have e0:v 2 = .agg #[.int .u64 lb,.string sb]:=hj 2 (by kernel_rfl)
   simp[aqo,Act.put,e0]
   go_wp2_with fail
   refine(HB.out _).mono ?_
   rintro e w2 ⟨u,rfl,h1,h2⟩
   go_wp2
   exact⟨rfl,rfl,h2,λd hd=>by cases hd;exact h1⟩
  case o4=>
   intro v w' hw hj
   have e1:Mw a 4294967297 (v 1) w':=hj 1 (by kernel_rfl)
   have e3:Mw b 4294967297 (v 3) w':=hj 3 (by kernel_rfl)
   simp[aqo,Act.put]
   go_wp2_with fail
   refine(Br w' e1 e3 (by omega) (by omega)).mono ?_
   rintro e w2 ⟨u,rfl,h1,h2⟩
   go_wp2
   exact⟨rfl,rfl,h2,λd hd=>by cases hd;exact h1⟩
  case o5=>
   intro v w' hw hj
   have e1:Mw (a*b) (4294967297+4294967297) (v 4) w':=hj 4 (by kernel_rfl)
   simp[aqo,Act.put]
   go_wp2_with fail
   refine(js w' e1 (by omega)).mono ?_
   rintro e w2 ⟨rfl,h2⟩
   go_wp2
   exact⟨rfl,rfl,h2,λd hd=>by cases hd;rfl⟩
  case fin=>
   intro v w3 hw hj
   have e5:v 5 = .agg #[.int .u64 (lo (a*b):Nat),.string (hi (a*b))]:=hj 5 36 (by omega) rfl
   have bx:=rX.ext hw
   have r0:w3.cell? ⟨w.heap.size+1+1,0,none⟩=some (.int .u64 0):=bx.cell 0
   have r1:w3.cell? ⟨w.heap.size+1+1,1,none⟩=some (.string ⟨#[]⟩):=bx.cell 1
   have f0:w3.frozen? ⟨w.heap.size+1+1,0,none⟩=false:=bx.frozen 0
   have f1:w3.frozen? ⟨w.heap.size+1+1,1,none⟩=false:=bx.frozen 1
   simp[aqo,Act.put,e5]
   go_wp2
   refine fY (w.heap.size+1+1) _ _ rfl rfl ((bx.set 0 _).set 1 _) rfl ⟨rfl,?_⟩
   exact(Below.setCell (Ext.trans rY hw) (p:=⟨w.heap.size+1+1,0,none⟩) (by show _<=_;simp;omega) _).setCell (p:=⟨w.heap.size+1+1,1,none⟩) (by show _<=_;simp;omega) _
theorem IY (a b:Nat) (ha:a<aa) (hb:b<aa) (w:World) :
  Calls Tryz.prog 62 #[.agg #[.int .u64 (lo a:Nat),.string (hi a)],.agg #[.int .u64 (lo b:Nat),.string (hi b)]] w (cg (.agg #[.int .u64 (lo (a*b):Nat),.string (hi (a*b))]) w):=by
 have HM:=aad (λW=>ng a b ha hb W)
 have heq:=AN a b
 have hs:=Mu a b
 have hh:uD a b<aa:=vj (B:=aa) (o:=0) (c:=0) ha hb (by unfold aa;omega) (by unfold aa;omega) (by simpa using heq)
 rw[bK ha,bK hb,cB ha,cB hb]
 generalize fD a b=s at *
 generalize uD a b=c at *
 by_cases hc:c=0
 ·subst hc
  have e:a*b=s:=by omega
  rw[e,bK hs,cB hs]
  clear e heq
  go_enter Tryz.func62,Tryz.ntmps62
  go_wp2_with (go_at_call 114;refine(HM.out _).mono ?_;rintro e w' ⟨rfl,rfl⟩)
  go_returns
  exact⟨rfl,(((Ext.refl _).alloc _).alloc _).alloc _⟩
 ·have e:val aa [s,c]=a*b:=by simp only[ck,kN];omega
  have Yu:((c:Int) == 0)=false:=pN.2 (by omega)
  have du:∀W,ar W (w.heap.size+1+1+1) 23 (U [s,c])->Calls Tryz.prog 115 #[.slice (some ⟨w.heap.size+1+1+1,0,none⟩) 2 2] W (cg (.agg #[.int .u64 (lo (a*b):Nat),.string (hi (a*b))]) W):=λW hB=>by have hh:=eh (w.heap.size+1+1+1) 2 [s,c] [] W (by simpa using hB) (by simp) (by simp) (aC.cons hs (aC.cons hh (aC.nil _)));rw[e] at hh;exact hh
  have HC:=aad du
  clear du e heq
  go_enter Tryz.func62,Tryz.ntmps62
  go_wp2_with (go_at_call 114;refine(HM.out _).mono ?_;rintro e w' ⟨rfl,rfl⟩)
  generalize hW:((w.alloc (.cells #[.int .u64 a,.string ⟨#[]⟩] 36)).alloc (.cells #[.int .u64 b,.string ⟨#[]⟩] 36)).alloc (.cells #[.int .u64 0,.string ⟨#[]⟩] 36)=W
  obtain⟨_,_,hr,hx⟩:=lB w W _ _ _ _ hW
  have br:W.heap.size=w.heap.size+1+1+1:=by rw[<-hW];simp
  have oK:=ar.new W 23 (U [s,c])
  rw[br] at oK
  refine(HC.out _ oK).mono ?_
  rintro e w3 ⟨rfl,dM⟩
  have bx:=(hr.alloc _).ext dM
  have r0:w3.cell? ⟨w.heap.size+1+1,0,none⟩=some (.int .u64 0):=bx.cell 0
  have r1:w3.cell? ⟨w.heap.size+1+1,1,none⟩=some (.string ⟨#[]⟩):=bx.cell 1
  have f0:w3.frozen? ⟨w.heap.size+1+1,0,none⟩=false:=bx.frozen 0
  have f1:w3.frozen? ⟨w.heap.size+1+1,1,none⟩=false:=bx.frozen 1
  clear br oK
  go_wp2
  refine fY (w.heap.size+1+1) _ _ rfl rfl ((bx.set 0 _).set 1 _) rfl ⟨rfl,?_⟩
  exact(Below.setCell (Ext.trans (hx.alloc _) dM) (p:=⟨w.heap.size+1+1,0,none⟩) (by show _<=_;simp;omega) _).setCell (p:=⟨w.heap.size+1+1,1,none⟩) (by show _<=_;simp;omega) _
theorem UB (a b:Nat) (ha:bl a<=274877906944) (hb:bl b<=274877906944) (w:World) :
  Calls Tryz.prog 62 #[.agg #[.int .u64 (lo a:Nat),.string (hi a)],.agg #[.int .u64 (lo b:Nat),.string (hi b)]] w (cg (.agg #[.int .u64 (lo (a*b):Nat),.string (hi (a*b))]) w):=by
 rcases aV a aa with h | h
 ·rcases aV b aa with h' | h'
  ·exact IY a b h h' w
  ·exact EH a b ha hb (.inr ⟨h,h'⟩) w
 ·exact EH a b ha hb (.inl h) w
theorem uO (v:Value) (xs:List Nat) (n:Nat) (w:World) (hr:Rd w xs v) (hx:xs.length<=8589934593) (hn:n<=549755813888) (hq:xs.length<=n/64) :
  Calls Tryz.prog 178 #[v,.int .i64 n] w λe w'=>e = .returned (.slice none 0 0)/\w=w':=by
 obtain⟨A,c,rfl,hh⟩:=hr
 clear hh
 go_enter Tryz.func178,Tryz.ntmps178
 go_wp2
 go_ret
 exact⟨rfl,rfl⟩
theorem uP (g off c:Nat) (xs:List Nat) (n:Nat) (w:World) (hg:g<w.heap.size) (aK:∀i,i<xs.length->w.cell? ⟨g,off+i,none⟩=some (.int .u64 (xs.getD i 0:Nat))) (hx:xs.length<=8589934593) (hn:n<=549755813888) (hd:aC aa xs) (hq:n/64<xs.length) :
  Calls Tryz.prog 178 #[.slice (some ⟨g,off,none⟩) xs.length c,.int .i64 n] w (cA (fy w.heap.size (dn (n%64) (xs.drop (n/64)))) w):=by
 have HH:=aad aK
 clear aK
 have hlen:(dn (n%64) (xs.drop (n/64))).length=xs.length-n/64:=by rw[eQ];simp
 have HL:=aad hlen
 clear hlen
 go_enter Tryz.func178,Tryz.ntmps178
 go_wp2_with (at_make;refine cb _ rfl (.tmp 21) (.tmp 21) 166 23 rfl (.int .u64 0) 8 Tryz.underlying166 j5 rfl .i64 .i64 _ _ (xs.length-n/64) rfl rfl ?c1 ?c1' ?c2 ?c3 ?_)
 case c1=>omega
 case c1'=>omega
 case c2=>omega
 case c3=>omega
 intro w1 bU eo bn
 rw[qm] at bn
 have HX:=aad bU
 have HB:=aad bn
 clear bU bn
 go_wp2
 go_loopw [25] (λi wr=>∃(k:Nat),k<=xs.length-n/64/\i = .int .i64 k/\Hid (ar wr w.heap.size 23 (U (as3 (dn (n%64) (xs.drop (n/64))) k)))/\Hid (bS w.heap.size w1 wr)) (λi _=>xs.length-n/64-(intOf i).toNat)
 case atStart=>
  refine⟨0,ia _,rfl,aad ?_,aad (bS.refl _ _)⟩
  have h:=HB.out
  rw[<-HL.out] at h
  exact h
 case round=>
  obtain⟨k,hk,rfl,aZ,bg⟩:=hrel
  by_cases dq:k<xs.length-n/64
  ·have ez:∀j,j<xs.length->∀W,bS w.heap.size w1 W->W.cell? ⟨g,off+j,none⟩=some (.int .u64 (xs.getD j 0:Nat)):=λj hj W hW=>by
    rw[<-HX.out.ak (HH.out j hj)];exact World.cell?_of_block (hW.block g (by have:=HX.out.size;omega) (λe=>by injection e with e;omega))
   have cU:=ez (k+n/64) (by omega) wr bg.out
   have hc2:k+n/64+1<xs.length->wr.cell? ⟨g,off+(k+n/64+1),none⟩=some (.int .u64 (xs.getD (k+n/64+1) 0:Nat)):=λh=>ez (k+n/64+1) h wr bg.out
   have fQ:=jJ (dn (n%64) (xs.drop (n/64))) k (by rw[HL.out];omega)
   have kZ:wr.cell? ⟨w.heap.size,k,none⟩=some (.int .u64 ((as3 (dn (n%64) (xs.drop (n/64))) k).getD k 0:Nat)):=by rw[aZ.out.cell,bQ _ _ (by rw[fQ,HL.out];exact dq)]
   have hf1:wr.frozen? ⟨w.heap.size,k,none⟩=false:=aZ.out.frozen _
   have bw:xs.getD (k+n/64) 0<aa:=hd.getD (by unfold aa;omega) _
   have ay:g≠w.heap.size:=by omega
   have hE:(dn (n%64) (xs.drop (n/64)))[k]'(by rw[HL.out];exact dq)=oP (xs.getD (k+n/64) 0) (xs.getD (k+n/64+1) 0) (n%64):=by rw[Bj,kY,kY];congr 2<;>omega
   have HE:=aad hE
   clear ez fQ hE
   generalize (as3 (dn (n%64) (xs.drop (n/64))) k).getD k 0=o at *
   by_cases Dz:k+n/64+1<xs.length
   ·have EI:=hc2
    have hc2:=EI Dz
    generalize xs.getD (k+n/64) 0=x at *
    generalize xs.getD (k+n/64+1) 0=x2 at *
    clear EI
    go_wp2
    have cF:=aZ.out.set k (.int .u64 ((x/2^(n%64):Nat):Int))
    have xi:=bg.out.set k (.int .u64 ((x/2^(n%64):Nat):Int))
    have aeh:(wr.setCell ⟨w.heap.size,k,none⟩ (.int .u64 ((x/2^(n%64):Nat):Int))).cell? ⟨g,off+(k+n/64+1),none⟩=some (.int .u64 x2):=(World.cell?_setCell_other wr _ _ _ (λe=>by injection e with e;exact ay e.symm)).trans hc2
    have ev:(x:Int)/2^(n%64)=((x/2^(n%64):Nat):Int):=by push_cast;rfl
    rw[ev]
    generalize wr.setCell ⟨w.heap.size,k,none⟩ (.int .u64 ((x/2^(n%64):Nat):Int))=W2 at *
    have fP:W2.cell? ⟨w.heap.size,k,none⟩=some (.int .u64 ((x/2^(n%64):Nat):Int)):=by rw[cF.cell,yk];rw[sJ,jJ _ _ (by rw[HL.out];omega),HL.out];exact dq
    have EF:W2.frozen? ⟨w.heap.size,k,none⟩=false:=cF.frozen _
    have nZ:=aad cF
    have IZ:=aad xi
    generalize UC:x/2^(n%64)=xq at *
    have HXQ:=aad UC
    clear cF xi aZ bg cU hc2 kZ hf1 UC ev
    have fV:=MY (y:=x) (y':=x2) (p:=n%64) (by omega) bw
    rw[HXQ.out] at fV
    have UD:=aad fV
    clear fV
    go_region
    rw[UD.out]
    go_wp2
    go_roundw
    case rel=>
     refine⟨k+1,by omega,by go_num,?_,aad ((IZ.out.set k _).trans (bS.aO (Ext.refl _).drew))⟩
     have h:=nZ.out.set k (.int .u64 (oP x x2 (n%64):Nat))
     rw[List.set_set,avy,<-HE.out,nh _ _ (by rw[HL.out];exact dq),HE.out] at h
     exact aad h
    case measure=>simp[intOf];omega
   ·have EJ:xs.getD (k+n/64+1) 0=0:=jy _ _ (by omega)
    rw[EJ] at HE
    generalize xs.getD (k+n/64) 0=x at *
    have ev:(x:Int)/2^(n%64)=((oP x 0 (n%64):Nat):Int):=by unfold oP;rw[Nat.zero_mod,Ai,qX];push_cast;rfl
    have EV:=aad ev
    clear hc2 EJ ev
    go_wp2
    rw[EV.out]
    go_roundw
    case rel=>
     refine⟨k+1,by omega,by go_num,?_,aad (bg.out.set k _)⟩
     have h:=aZ.out.set k (.int .u64 (oP x 0 (n%64):Nat))
     rw[avy,<-HE.out,nh _ _ (by rw[HL.out];exact dq),HE.out] at h
     exact aad h
    case measure=>simp[intOf];omega
  ·obtain rfl:k=xs.length-n/64:=by omega
   go_wp2
   go_ret
   refine⟨_,rfl,.inr ⟨w.heap.size,bX _,?_,?_⟩,bg.out.ext HX.out (bX _)⟩
   ·rw[HL.out];rfl
   ·have h:=aZ.out
    have e:=rv (dn (n%64) (xs.drop (n/64)))
    rw[HL.out] at e
    rw[e] at h
    exact h
theorem xj (v:Value) (xs:List Nat) (n:Nat) (w:World) (hr:Rd w xs v) (hx:xs.length<=8589934593) (hn:n<=549755813888) (hd:aC aa xs) :
  Calls Tryz.prog 178 #[v,.int .i64 n] w (cA (λv' w'=>∃ys,ys.length<=xs.length/\aC aa ys/\val aa ys=val aa xs/2^n/\fy w.heap.size ys v' w') w):=by
 by_cases hq:n/64<xs.length
 ·obtain⟨A,c,rfl,hh⟩:=hr
  obtain⟨g,off,rfl,hg,hc⟩:=hh (λe=>by rw[e] at hq;simp at hq)
  refine(uP g off c xs n w hg hc hx hn hd hq).mono ?_
  rintro e w' ⟨v',rfl,hf,he⟩
  exact⟨v',rfl,⟨_,by rw[eQ];simp,Bk (by omega) (hd.drop _),MX hd n (by omega),hf⟩,he⟩
 ·refine(uO v xs n w hr hx hn (by omega)).mono ?_
  rintro e w' ⟨rfl,rfl⟩
  refine⟨_,rfl,⟨[],by simp,aC.nil _,?_,.inl ⟨rfl,rfl⟩⟩,Ext.refl _⟩
  have h1:=cl hd
  have h2:aa^xs.length<=2^n:=by rw[iy];exact iS (by omega) (by omega)
  rw[sD (by omega)];rfl
theorem EK {a l n:Nat} {v:Value} (w:World) (h:Mw a l v w) (hl:l<=8589934593) (hn:n<=549755813888) :
  Calls Tryz.prog 176 #[v,.int .i64 n] w (cA (Mw (a*2^n) (l+n/64+1)) w):=by
 obtain⟨xs,base,r1,r2,r3,r4⟩:=h
 refine(nz v xs n w r4.rd (by omega) hn r2).mono ?_
 rintro e w' ⟨v',rfl,⟨zs,t1,t2,t3,t4⟩,hx⟩
 exact⟨v',rfl,⟨zs,_,by omega,t2,by rw[t3,r3],t4⟩,hx⟩
theorem Zc (w W:World) (la sa:Value) (h:(w.alloc (.cells #[la,sa] 36)).alloc (.cells #[.int .u64 0,.string ⟨#[]⟩] 36)=W) :
  ar W w.heap.size 36 [la,sa]/\ar W (w.heap.size+1) 36 [.int .u64 0,.string ⟨#[]⟩]/\Ext w W:=by
 subst h
 refine⟨(ar.new w _ [la,sa]).alloc _,?_,((Ext.refl w).alloc _).alloc _⟩
 have h:=ar.new (w.alloc (.cells #[la,sa] 36)) 36 [.int .u64 0,.string ⟨#[]⟩]
 rw[World.size_alloc] at h
 exact h
theorem O5 (a n:Nat) (ha:bl a<=549755813888) (hn:n<=65536) (w:World) :
  Calls Tryz.prog 159 #[.agg #[.int .u64 (lo a:Nat),.string (hi a)],.int .i64 n] w (cg (.agg #[.int .u64 (lo (a*2^n):Nat),.string (hi (a*2^n))]) w):=by
 have HA:=aad (λW=>O4 a ha W)
 have HU:Hid (∀W v,Mw a 8589934593 v W->Calls Tryz.prog 176 #[v,.int .i64 n] W (cA (Mw (a*2^n) 9000000000) W)):=aad (λW v h=>(EK W h (by omega) (by omega)).mono (λ_ _ ⟨v',he,⟨zs,b,h1,h2⟩,hx⟩=>⟨v',he,⟨zs,b,by omega,h2⟩,hx⟩))
 have HF:Hid (∀W v,Mw (a*2^n) 9000000000 v W->Calls Tryz.prog 115 #[v] W (cg (.agg #[.int .u64 (lo (a*2^n):Nat),.string (hi (a*2^n))]) W)):=aad (λW v h=>js W h (by omega))
 generalize a*2^n=m at *
 generalize lo m=lr at *
 generalize hi m=sr at *
 generalize lo a=la at *
 generalize hi a=sa at *
 have m1:min (n:Int) 65536=n:=by omega
 have m2:max (-65536) (n:Int)=n:=by omega
 have h0:(0:Int)<=n:=by omega
 clear hn ha
 generalize (n:Int)=z at *
 go_enter Tryz.func159,Tryz.ntmps159
 go_wp2_with fail
 generalize hW:(w.alloc (.cells #[.int .u64 la,.string sa] 36)).alloc (.cells #[.int .u64 0,.string ⟨#[]⟩] 36)=W
 obtain⟨_,hr,hx⟩:=Zc w W _ _ hW
 have HR:=aad hr
 have HX:=aad hx
 clear hr hx hW
 refine(HA.out _).mono ?_
 rintro e w1 ⟨v1,rfl,fj,bU⟩
 have I0:=aad fj
 clear fj
 go_wp2_with fail
 refine(HU.out _ _ I0.out).mono ?_
 rintro e w2 ⟨v2,rfl,jv,fP⟩
 have UE:=aad jv
 clear jv
 go_wp2_with fail
 refine(HF.out _ _ UE.out).mono ?_
 rintro e w3 ⟨rfl,eR⟩
 have he:Ext w w3:=HX.out.trans (bU.trans (fP.trans eR))
 have bx:=((HR.out.ext bU).ext fP).ext eR
 have r0:w3.cell? ⟨w.heap.size+1,0,none⟩=some (.int .u64 0):=bx.cell 0
 have r1:w3.cell? ⟨w.heap.size+1,1,none⟩=some (.string ⟨#[]⟩):=bx.cell 1
 have f0:w3.frozen? ⟨w.heap.size+1,0,none⟩=false:=bx.frozen 0
 have f1:w3.frozen? ⟨w.heap.size+1,1,none⟩=false:=bx.frozen 1
 go_wp2
 refine fY (w.heap.size+1) _ _ rfl rfl ((bx.set 0 _).set 1 _) rfl ⟨rfl,?_⟩
 exact(Below.setCell he (p:=⟨w.heap.size+1,0,none⟩) (by show _<=_;simp) _).setCell (p:=⟨w.heap.size+1,1,none⟩) (by show _<=_;simp) _
theorem EL (A:Option Addr) (c:Nat) (w:World):Calls Tryz.prog 130 #[.slice A 0 c] w λe w'=>e = .returned (.slice A 0 c)/\w'=w:=by
 go_enter Tryz.func130,Tryz.ntmps130
 go_wp2
 go_rounds 1
 rcases A with _ | A
 all_goals
  go_ret
  exact⟨rfl,rfl⟩
theorem Bs (g off c:Nat) (xs:List Nat) (w:World) (hl:xs.length<=c) (hc:xs.length<=1099511627776) (hd:aC ae xs) (aK:∀i,i<xs.length->w.cell? ⟨g,off+i,none⟩=some (.int .u32 (xs.getD i 0:Nat))) :
  Calls Tryz.prog 130 #[.slice (some ⟨g,off,none⟩) xs.length c] w λe w'=>e = .returned (.slice (some ⟨g,off,none⟩) (af ae (val ae xs)).length c)/\w'=w:=by
 have HC:=aad aK
 clear aK
 go_enter Tryz.func130,Tryz.ntmps130
 go_wp2
 go_loop [3] (λv=>∃m:Nat,m<=xs.length/\v = .int .i64 m/\Hid (val ae (xs.take m)=val ae xs)) (λv=>(intOf v).toNat)
 case atStart=>exact⟨xs.length,bX _,rfl,aad (by rw[qY])⟩
 case round=>
  obtain⟨m,hm,rfl,hv⟩:=hrel
  by_cases yB:m=0
  ·subst yB
   go_wp2
   go_ret
   refine⟨?_,rfl⟩
   have:=kC aE hd hm hv.out (by omega)
   rw[this];simp
  ·obtain⟨m,rfl⟩:∃k,m=k+1:=⟨m-1,by omega⟩
   have uF:=HC.out m (by omega)
   by_cases hx:xs.getD m 0=0
   ·rw[hx] at uF
    go_wp2
    go_round
    case rel=>exact⟨m,by omega,rfl,aad (by rw[<-ql hx];exact hv.out)⟩
    case measure=>simp[intOf]
   ·have hb:((xs.getD m 0:Nat):Int)≠0:=by omega
    have kP:(((xs.getD m 0:Nat):Int) == 0)=false:=pN.2 hb
    generalize hy:xs.getD m 0=y at *
    have HY:=aad hy
    clear hy
    go_wp2
    go_ret
    refine⟨?_,rfl⟩
    have:=kC aE hd hm hv.out (λ_=>by rw[pK,HY.out];exact hx)
    rw[this,iY,pw hm]
    rfl
theorem dV {xs:List Nat} {v:Value} {w:World} (h:dK xs v w) (hc:xs.length<=1099511627776) (hd:aC ae xs) :
  Calls Tryz.prog 130 #[v] w λe w'=>∃v',e = .returned v'/\bJ (val ae xs) v' w/\w'=w:=by
 obtain⟨A,c,rfl,hl,hh⟩:=h
 by_cases hx:xs=[]
 ·subst hx
  refine(EL A c w).mono ?_
  rintro e w' ⟨rfl,rfl⟩
  refine⟨_,rfl,?_,rfl⟩
  unfold bJ
  rw[kN,aX]
  exact⟨A,c,rfl,hl,λh=>absurd rfl h⟩
 ·obtain⟨g,off,rfl,hg,aK⟩:=hh hx
  refine(Bs g off c xs w hl hc hd aK).mono ?_
  rintro e w' ⟨rfl,rfl⟩
  have hle:=gD aE hd
  refine⟨_,rfl,⟨_,c,rfl,j3 hle hl,λ_=>⟨g,off,rfl,hg,λi hi=>?_⟩⟩,rfl⟩
  rw[aK i (by omega),vK aE hd hi]
theorem xk (n:Nat) (hn:n<aa) (w:World) :
  Calls Tryz.prog 79 #[.int .u64 n] w (cA (bJ n) w):=by
 have h1:n%ae<ae:=pv _ (by unfold ae;omega)
 have h2:n/ae<ae:=by unfold ae;unfold aa at hn;omega
 have hd:aC ae [n%ae,n/ae]:=aC.cons h1 (aC.cons h2 (aC.nil _))
 have hv:val ae [n%ae,n/ae]=n:=by simp only[ck,kN];have:=yc n ae;omega
 have HT:Hid (∀W g,ar W g 184 (bT [n%ae,n/ae])->Calls Tryz.prog 130 #[.slice (some ⟨g,0,none⟩) 2 2] W λe w'=>∃v',e = .returned v'/\bJ n v' W/\w'=W):=aad (λW g hb=>by have h:=dV (dK.iA hb) (by simp) hd;rw[hv] at h;exact h)
 have hm:(n:Int)%4294967296=((n%ae:Nat):Int):=by unfold ae;omega
 have hq:(n:Int)/4294967296=((n/ae:Nat):Int):=by unfold ae;omega
 have AO:((n/ae:Nat):Int)%4294967296=((n/ae:Nat):Int):=by unfold ae at *;omega
 have HH1:=aad hm
 have HH2:=aad hq
 have HH3:=aad AO
 clear h1 h2 hd hv hn hm hq AO
 generalize n%ae=a at *
 generalize n/ae=b at *
 go_enter Tryz.func79,Tryz.ntmps79
 go_wp2_with fail
 rw[HH2.out,HH3.out,HH1.out]
 refine(HT.out _ _ (ar.new w 184 (bT [a,b]))).mono ?_
 rintro e w1 ⟨v,rfl,hr,rfl⟩
 have HR:=aad hr
 clear hr
 go_wp2
 go_ret
 exact⟨_,rfl,HR.out,(Ext.refl w).alloc _⟩
theorem rZ (m:Nat) (v:Value) (w:World) (h:bJ m v w) (hm:bl m<=1099511627776) :
  Calls Tryz.prog 170 #[v] w λe w'=>e = .returned (.int .i64 (bl m:Nat))/\w'=w:=by
 obtain⟨A,c,rfl,hl,hh⟩:=h
 by_cases h0:m=0
 ·subst h0
  rw[gf,aX]
  clear hh
  go_enter Tryz.func170,Tryz.ntmps170
  go_wp2
  go_ret
  exact⟨rfl,rfl⟩
 ·have ay:af ae m≠[]:=λe=>h0 ((ay0 aE).1 e)
  obtain⟨g,off,rfl,hg,aK⟩:=hh ay
  have hb:=Ol m h0
  have hp:=eF aE h0
  have ht:=(aL aE m).getD (by unfold ae;omega) ((af ae m).length-1)
  have hc:=aK ((af ae m).length-1) (by omega)
  clear aK hh ay
  generalize (af ae m).getD ((af ae m).length-1) 0=t at *
  generalize (af ae m).length=l at *
  obtain⟨l,rfl⟩:∃j,l=j+1:=⟨l-1,by omega⟩
  rw[pK] at hb hc
  have HB:=aad hb
  have Dr:(t:Int)<=4294967295:=by unfold ae at ht;omega
  have fk:(l:Int)<=34359738368:=by omega
  have hmi:((bl m:Nat):Int)<=1099511627776:=by omega
  clear hb ht hp hm h0
  have hbt:bl t<=bl m:=by have:=HB.out;omega
  go_enter Tryz.func170,Tryz.ntmps170
  go_wp2
  go_loop [3,4] (λa b=>∃j x:Nat,a = .int .i64 (32*(l:Int)+j)/\b = .int .u32 x/\(x:Int)<=4294967295/\j+bl x=bl t) (λ_ b=>(intOf b).toNat)
  case atStart=>exact⟨0,t,by simp,rfl,Dr,by simp⟩
  case round=>
   obtain⟨j,x,rfl,rfl,hx,hj⟩:=hrel
   by_cases vC:x=0
   ·subst vC
    rw[gf] at hj
    have HJ:=aad hj
    clear hj
    go_wp2
    go_ret
    refine⟨?_,rfl⟩
    have:=HB.out
    have:=HJ.out
    show Ending.returned (.int .i64 (32*(l:Int)+j))=_
    congr 2;omega
   ·have hhx:=S5 vC
    have HJ:=aad hj
    have HX:=aad hhx
    have Zd:(0:Int)<x:=by omega
    have hjt:(j:Int)+32*(l:Int)<=1099511627776:=by have:=HB.out;omega
    clear hj hhx
    go_wp2
    go_round
    case rel=>
     refine⟨j+1,x/2,by congr 1,by congr 1,by omega,?_⟩
     have:=HJ.out;have:=HX.out;omega
    case measure=>simp[intOf];omega
theorem oX (l:List UInt8) (v:Value) (w:World) (hl:l.length<=68719476737) (hs:jQ l v w) :
  Calls Tryz.prog 141 #[v] w (cg (.agg #[.int .u64 (lo (pY l):Nat),.string (hi (pY l))]) w):=by
 obtain⟨A,c,rfl,hc,hm,hh⟩:=hs
 have HH:=aad hh
 have HF:Hid (∀L W,lI (rb l) (rb l).length L->ar W (w.heap.size+1) 23 (U L)->Calls Tryz.prog 115 #[.slice (some ⟨w.heap.size+1,0,none⟩) ((l.length+7)/8) ((l.length+7)/8)] W (cg (.agg #[.int .u64 (lo (pY l):Nat),.string (hi (pY l))]) W)):=aad (λL W hL hb=>by have h:=eh (w.heap.size+1) L.length L [] W (by simpa using hb) (bX _) (by rw[hL.len,cd];omega) hL.bP;rw[hL.fin,hL.len,cd] at h;exact h)
 have hq:((l.length:Nat)+7:Int)/8=((l.length+7)/8:Nat):=by omega
 have hM:(l.length+7)/8<=10000000000:=by omega
 clear hh hc hm
 generalize qO:(l.length+7)/8=M at *
 have HM:=aad qO
 clear qO
 generalize lo (pY l)=la at *
 generalize hi (pY l)=sa at *
 go_enter Tryz.func141,Tryz.ntmps141
 go_wp2_with (at_make;refine cb _ rfl (.tmp 8) (.tmp 8) 166 23 rfl (.int .u64 0) 8 Tryz.underlying166 j5 rfl .i64 .i64 _ _ M rfl rfl ?c1 ?c1' ?c2 ?c3 ?_)
 case c1=>omega
 case c1'=>omega
 case c2=>omega
 case c3=>omega
 intro w1 bU eo bn
 try simp only[World.size_alloc] at eo bn
 rw[qm] at bn
 have HR:=aad ((ar.new w 36 [.int .u64 0,.string ⟨#[]⟩]).ext bU)
 have HX:=aad (((Ext.refl w).alloc _).trans bU)
 have HB:=aad bn
 clear bU bn eo hq
 go_wp2
 go_loopw [12] (λi wr=>∃(k:Nat) (L:List Nat),k<=l.length/\i = .int .i64 k/\Hid (lI (rb l) k L)/\Hid (ar wr (w.heap.size+1) 23 (U L))/\Hid (bS (w.heap.size+1) w1 wr)) (λi _=>l.length-(intOf i).toNat)
 case atStart=>exact⟨0,_,ia _,rfl,aad (by have h:=lI.start (rb l);rw[cd,HM.out] at h;exact h),HB,aad (bS.refl _ _)⟩
 case round=>
  obtain⟨k,L,hk,rfl,hL,aZ,bg⟩:=hrel
  by_cases dq:k<l.length
  ·obtain⟨g,off,rfl,hg,aK⟩:=HH.out (λe=>by rw[e] at dq;simp at dq)
   have ez:wr.cell? ⟨g,off+(l.length-1-k),none⟩=some (.int .u8 ((rb l).getD k 0:Nat)):=by rw[zE l k dq];exact(bg.out.ext HX.out (by omega)).ak (aK _ (by omega))
   have hlen:=hL.out.len
   rw[cd,HM.out] at hlen
   have hk8:k/8<M:=by have:=HM.out;omega
   have cU:wr.cell? ⟨w.heap.size+1,k/8,none⟩=some (.int .u64 (L.getD (k/8) 0:Nat)):=by rw[aZ.out.cell,bQ _ _ (by omega)]
   have hf1:wr.frozen? ⟨w.heap.size+1,k/8,none⟩=false:=aZ.out.frozen _
   have bw:(rb l).getD k 0<256:=(kn l).getD (by omega) k
   have hw:=hL.out.word (kn l)
   obtain⟨_,hN⟩:=hL.out.step (by rw[cd];exact dq) (kn l)
   have HN:=aad hN
   have HV:=aad (aaE (p:=8*(k%8)) bw (by omega) hw)
   clear aK hlen hN hw
   generalize (rb l).getD k 0=x at *
   generalize L.getD (k/8) 0=o at *
   go_wp2
   go_region
   rw[HV.out]
   go_wp2
   go_roundw
   case rel=>
    refine⟨k+1,_,by omega,by go_num,HN,?_,aad ((bg.out.set (k/8) _).trans (bS.aO (Ext.refl _).drew))⟩
    have h:=aZ.out.set (k/8) (.int .u64 (o+2^(8*(k%8))*x:Nat))
    rw[avy] at h
    exact aad h
   case measure=>simp[intOf];omega
  ·obtain rfl:k=l.length:=by omega
   go_wp2_with fail
   refine(HF.out L _ (by rw[cd];exact hL.out) aZ.out).mono ?_
   rintro e w3 ⟨rfl,eR⟩
   have he:Ext w w3:=(bg.out.ext HX.out (by omega)).trans eR
   have bx:=(bg.out.kO HR.out (by omega)).ext eR
   have r0:w3.cell? ⟨w.heap.size,0,none⟩=some (.int .u64 0):=bx.cell 0
   have r1:w3.cell? ⟨w.heap.size,1,none⟩=some (.string ⟨#[]⟩):=bx.cell 1
   have f0:w3.frozen? ⟨w.heap.size,0,none⟩=false:=bx.frozen 0
   have f1:w3.frozen? ⟨w.heap.size,1,none⟩=false:=bx.frozen 1
   go_wp2
   refine fY w.heap.size _ _ rfl rfl ((bx.set 0 _).set 1 _) rfl ⟨rfl,?_⟩
   exact(Below.setCell he (p:=⟨w.heap.size,0,none⟩) (by show _<=_;simp) _).setCell (p:=⟨w.heap.size,1,none⟩) (by show _<=_;simp) _
theorem jt:(Tryz.prog.info? 184).map (λi=>(i.zero,i.size,i.bytes))=some (some (.int .u32 0),1,4):=by kernel_rfl
theorem Bt (l:List UInt8) (v:Value) (w:World) (hl:l.length<=68719476737) (hs:jQ l v w) :
  Calls Tryz.prog 144 #[v] w (cA (bJ (pY l)) w):=by
 obtain⟨A,c,rfl,hc,hm,hh⟩:=hs
 have HH:=aad hh
 have HF:Hid (∀L W,nN (rb l) 0 L->ar W w.heap.size 184 (bT L)->Calls Tryz.prog 130 #[.slice (some ⟨w.heap.size,0,none⟩) ((l.length+3)/4) ((l.length+3)/4)] W λe w'=>∃v',e = .returned v'/\bJ (pY l) v' W/\w'=W):=aad (λL W hL hb=>by have h:=dV (dK.iA hb) (by rw[hL.len,cd];omega) hL.bP;rw[hL.vl,hL.len,cd,C8,qU,CT] at h;exact h)
 have hq:((l.length:Nat)+3:Int)/4=((l.length+3)/4:Nat):=by omega
 have hM:(l.length+3)/4<=20000000000:=by omega
 clear hh hc hm
 generalize qO:(l.length+3)/4=M at *
 have HM:=aad qO
 clear qO
 go_enter Tryz.func144,Tryz.ntmps144
 go_wp2_with (at_make;refine cb _ rfl (.tmp 9) (.tmp 9) 66 184 rfl (.int .u32 0) 4 Tryz.underlying66 jt rfl .i64 .i64 _ _ M rfl rfl ?c1 ?c1' ?c2 ?c3 ?_)
 case c1=>omega
 case c1'=>omega
 case c2=>omega
 case c3=>omega
 intro w1 bU eo bn
 try simp only[World.size_alloc] at eo bn
 rw[aZv] at bn
 have HX:=aad bU
 have HB:=aad bn
 clear bU bn eo hq
 go_wp2
 go_loopw [4] (λi wr=>∃(k:Nat) (L:List Nat),k<=l.length/\i = .int .i64 k/\Hid (nN (rb l) (l.length-k) L)/\Hid (ar wr w.heap.size 184 (bT L))/\Hid (bS w.heap.size w1 wr)) (λi _=>l.length-(intOf i).toNat)
 case atStart=>exact⟨0,_,ia _,rfl,aad (by have h:=nN.start (rb l);rw[cd,HM.out] at h;exact h),HB,aad (bS.refl _ _)⟩
 case round=>
  obtain⟨k,L,hk,rfl,hL,aZ,bg⟩:=hrel
  by_cases dq:k<l.length
  ·obtain⟨g,off,rfl,hg,aK⟩:=HH.out (λe=>by rw[e] at dq;simp at dq)
   have ez:wr.cell? ⟨g,off+k,none⟩=some (.int .u8 ((rb l).getD (l.length-1-k) 0:Nat)):=by rw[Eu l k dq];exact(bg.out.ext HX.out (by omega)).ak (aK _ dq)
   obtain⟨j,hj⟩:∃j,l.length-1-k=j:=⟨_,rfl⟩
   have Ze:Hid (nN (rb l) (j+1) L):=aad (by have h:=hL.out;rw[show l.length-k=j+1 from by omega] at h;exact h)
   rw[hj] at ez
   have hlen:=Ze.out.len
   rw[cd,HM.out] at hlen
   have hk8:j/4<M:=by have:=HM.out;omega
   have cU:wr.cell? ⟨w.heap.size,j/4,none⟩=some (.int .u32 (L.getD (j/4) 0:Nat)):=by rw[aZ.out.cell,cY _ _ (by omega)]
   have hf1:wr.frozen? ⟨w.heap.size,j/4,none⟩=false:=aZ.out.frozen _
   have bw:(rb l).getD j 0<256:=(kn l).getD (by omega) j
   obtain⟨z,hz⟩:=Ze.out.word
   have ho:L.getD (j/4) 0<ae:=Ze.out.bP.getD (by unfold ae;omega) _
   obtain⟨_,hN⟩:=Ze.out.step (by rw[cd];omega) (kn l)
   have HN:=aad hN
   have hv:=ad9 (p:=8*(j%4)) bw (by omega) hz ho
   rw[IntKind.wrap_u32'] at hv
   have HV:=aad hv
   have Od:(l.length:Int)-1-k=j:=by omega
   have sE:j+1+k=l.length:=by omega
   have HJ:=aad sE
   clear aK hlen hN hz hj hL sE hv
   generalize (rb l).getD j 0=x at *
   generalize L.getD (j/4) 0=o at *
   have dC:(o:Int)<=4294967295:=by unfold ae at ho;omega
   go_wp2
   go_region
   rw[HV.out]
   go_wp2
   go_roundw
   case rel=>
    refine⟨k+1,_,by omega,by go_num,by have:=HJ.out;rw[show l.length-(k+1)=j from by omega];exact HN,?_,aad ((bg.out.set (j/4) _).trans (bS.aO (Ext.refl _).drew))⟩
    have h:=aZ.out.set (j/4) (.int .u32 (o+2^(8*(j%4))*x:Nat))
    rw[fa] at h
    exact aad h
   case measure=>simp[intOf];omega
  ·obtain rfl:k=l.length:=by omega
   have HL0:Hid (nN (rb l) 0 L):=aad (by have h:=hL.out;rw[Ay] at h;exact h)
   go_wp2_with fail
   refine(HF.out L _ HL0.out aZ.out).mono ?_
   rintro e w3 ⟨v,rfl,hr,rfl⟩
   have HR:=aad hr
   clear hr
   go_wp2
   go_ret
   exact⟨_,rfl,HR.out,bg.out.ext HX.out (bX _)⟩
theorem r6 (xs:List Nat) (v:Value) (i:Nat) (w:World) (h:dK xs v w) (hd:aC ae xs) (_hl:xs.length<=1099511627776) (_hi:i<=1099511627776) :
  Calls Tryz.prog 172 #[v,.int .i64 i] w λe w'=>e = .returned (.int .u64 (xs.getD i 0:Nat))/\w=w':=by
 obtain⟨A,c,rfl,_,hh⟩:=h
 have hx:=hd.getD (by unfold ae;omega) i
 by_cases hix:i<xs.length
 ·obtain⟨g,off,rfl,hg,aK⟩:=hh (λe=>by rw[e] at hix;simp at hix)
  have hc:=aK i hix
  clear aK hh hd
  generalize xs.getD i 0=x at *
  have pU:(x:Int)<=4294967295:=by unfold ae at hx;omega
  go_enter Tryz.func172,Tryz.ntmps172
  go_wp2
  go_ret
  exact⟨rfl,rfl⟩
 ·have h0:xs.getD i 0=0:=jy _ _ (by omega)
  rw[h0]
  clear hh hd hx h0
  go_enter Tryz.func172,Tryz.ntmps172
  go_wp2
  go_ret
  exact⟨rfl,rfl⟩
theorem lJ (a b:Nat) (v1 v2:Value) (w:World) (h1:bJ a v1 w) (h2:bJ b v2 w) (ha:bl a<=549755813888) (hb:bl b<=549755813888) :
  Calls Tryz.prog 134 #[v1,v2] w (cg (.int .i64 (bG a b)) w):=by
 have jh:=cL a 17179869184 (by omega)
 have kh:=cL b 17179869184 (by omega)
 have gJ:=aL aE a
 have hZ:=aL aE b
 obtain⟨A,c,rfl,_,hh⟩:=h1
 obtain⟨A',c',rfl,_,qN⟩:=h2
 rcases uZ (af ae a).length (af ae b).length with h | h | h
 ·rw[di (fw aE h)]
  have e1:(((af ae a).length:Int) != ((af ae b).length:Int))=true:=by simp;omega
  clear hh qN gJ hZ ha hb
  generalize (af ae a).length=p at *
  generalize (af ae b).length=q at *
  go_enter Tryz.func134,Tryz.ntmps134
  go_wp2
  go_ret
  exact⟨rfl,Ext.refl _⟩
 ·have hR:=λj hj hd ay=>Uo (a:=a) (b:=b) (j:=j) h hj hd ay
  have hE:af ae a=af ae b->bG a b=0:=λe=>by
   have:a=b:=by rw[<-amE aE a,<-amE aE b,e]
   subst this;unfold bG;simp
  have e1:(((af ae a).length:Int) != ((af ae b).length:Int))=false:=by simp;omega
  clear ha hb
  generalize af ae a=xs at *
  generalize af ae b=ys at *
  generalize bG a b=r at *
  have HH:=aad hh
  have IX:=aad qN
  have l9:=aad gJ
  have uQ:=aad hZ
  have IQ:=aad hR
  have HEE:=aad hE
  have HL:=aad h
  clear hh qN gJ hZ hR hE h
  go_enter Tryz.func134,Tryz.ntmps134
  go_wp2
  go_loopw [5] (λi wr=>∃j:Nat,j<=xs.length/\i = .int .i64 ((j:Int)-1)/\Hid (xs.drop j=ys.drop j)/\Hid (Ext w wr)) (λi _=>(intOf i+1).toNat)
  case atStart=>exact⟨xs.length,bX _,rfl,aad (by rw[Ac,HL.out,Ac]),aad (Ext.refl w)⟩
  case round=>
   obtain⟨j,hj,rfl,hd,hex⟩:=hrel
   by_cases qi:j=0
   ·subst qi
    have HE0:=aad (HEE.out (by simpa using hd.out))
    go_wp2
    go_ret
    exact⟨gi HE0.out.symm,hex.out⟩
   ·obtain⟨j,rfl⟩:∃k,j=k+1:=⟨j-1,by omega⟩
    rw[show((j+1:Nat):Int)-1=(j:Int) from by omega]
    have pZ:j<xs.length:=by omega
    have ld:j<ys.length:=by have:=HL.out;omega
    obtain⟨g,off,rfl,hg,aK⟩:=HH.out (λe=>by rw[e] at pZ;simp at pZ)
    obtain⟨g',fI,rfl,fc,fU⟩:=IX.out (λe=>by rw[e] at ld;simp at ld)
    have ez:=hex.out.ak (aK j pZ)
    have mP:=hex.out.ak (fU j ld)
    have bw:xs.getD j 0<ae:=l9.out.getD (by unfold ae;omega) j
    have de:ys.getD j 0<ae:=uQ.out.getD (by unfold ae;omega) j
    have pO:xs.getD j 0=ys.getD j 0->xs.drop j=ys.drop j:=λe=>by rw[tH pZ,tH ld,hd.out,<-aP _ _ pZ,<-aP _ _ ld,e]
    have hR:=IQ.out j pZ hd.out
    have Un:=aad pO
    have uM:=aad hR
    clear aK fU pO hR hd
    generalize xs.getD j 0=x at *
    generalize ys.getD j 0=y at *
    rcases uZ x y with aU | he | aU
    ·have hr:r = -1:=by rw[<-uM.out (by omega),di aU]
     have bn:((x:Int) != (y:Int))=true:=by simp;omega
     have cF:(x:Int)<(y:Int):=by omega
     have Bu:=aad hr
     clear hr
     go_wp2
     go_quiet (fail)
     rename_i nq
     have UH:(wr.drewN nq).cell? ⟨g,off+j,none⟩=some (.int .u32 x):=ez
     have UI:(wr.drewN nq).cell? ⟨g',fI+j,none⟩=some (.int .u32 y):=mP
     have iX:=aad (hex.out.drewN nq)
     clear hex ez mP
     generalize wr.drewN nq=W6 at *
     go_wp2
     go_quiet (fail)
     go_wp2
     go_ret
     exact⟨gi Bu.out.symm,iX.out.drewN _⟩
    ·subst he
     have bn:((x:Int) != (x:Int))=false:=by simp
     go_wp2
     go_quiet (fail)
     go_wp2
     go_roundw
     case rel=>exact⟨j,by omega,rfl,aad (Un.out (by simp)),aad (hex.out.drewN _)⟩
     case measure=>simp[intOf]
    ·have hr:r=1:=by rw[<-uM.out (by omega),dB aU]
     have bn:((x:Int) != (y:Int))=true:=by simp;omega
     have cF:decide (x<y)=false:=nS (by omega)
     have Bu:=aad hr
     clear hr
     go_wp2
     go_quiet (fail)
     rename_i nq
     have UH:(wr.drewN nq).cell? ⟨g,off+j,none⟩=some (.int .u32 x):=ez
     have UI:(wr.drewN nq).cell? ⟨g',fI+j,none⟩=some (.int .u32 y):=mP
     have iX:=aad (hex.out.drewN nq)
     clear hex ez mP
     generalize wr.drewN nq=W6 at *
     go_wp2
     go_quiet (fail)
     go_wp2
     go_ret
     exact⟨gi Bu.out.symm,iX.out.drewN _⟩
 ·rw[dB (fw aE h)]
  have e1:(((af ae a).length:Int) != ((af ae b).length:Int))=true:=by simp;omega
  have e2:decide ((af ae a).length<(af ae b).length)=false:=nS (by omega)
  clear hh qN gJ hZ ha hb
  generalize (af ae a).length=p at *
  generalize (af ae b).length=q at *
  go_enter Tryz.func134,Tryz.ntmps134
  go_wp2
  go_ret
  exact⟨rfl,Ext.refl _⟩
def aNC (_:World):Prop:=True
theorem aNC.ext {w w':World} (_:aNC w) (_:Ext w w'):aNC w':=trivial
def OW (g:Nat) (xs:List Nat) (v:Value) (w:World):Prop:=∃P Q:List Nat,v = .slice (some ⟨g,P.length,none⟩) xs.length (xs.length+Q.length)/\ar w g 23 (U (P++xs++Q))
theorem mS (P L Q:List Nat) (k:Nat) (h:k<L.length):(U (P++L++Q))[P.length+k]? = some (.int .u64 (L.getD k 0:Nat)):=by rw[bQ _ _ (by simp;omega),au,au,vv,pq (by omega),yX,iR h]
theorem ES (P L Q:List Nat) (k y:Nat) (h:k<L.length):(U (P++L++Q)).set (P.length+k) (.int .u64 (y:Nat))=U (P++L.set k y++Q):=by rw[avy,vv,Cj _ _ (by omega),yX,GK _ _ h,vv]
theorem OW.ext {g:Nat} {xs:List Nat} {v:Value} {w w':World} (h:OW g xs v w) (e:Ext w w'):OW g xs v w':=by obtain⟨P,Q,rfl,hb⟩:=h;exact⟨P,Q,rfl,hb.ext e⟩
theorem OW.but {g g':Nat} {xs:List Nat} {v:Value} {w w':World} (h:OW g xs v w) (e:bS g' w w') (ay:g≠g'):OW g xs v w':=by obtain⟨P,Q,rfl,hb⟩:=h;exact⟨P,Q,rfl,e.kO hb ay⟩
theorem OW.lt {g:Nat} {xs:List Nat} {v:Value} {w:World} (h:OW g xs v w):g<w.heap.size:=by obtain⟨P,Q,rfl,hb⟩:=h;exact hb.lt
theorem OW.iA {g:Nat} {xs:List Nat} {w:World} (h:ar w g 23 (U xs)):OW g xs (.slice (some ⟨g,0,none⟩) xs.length xs.length) w:=⟨[],[],by simp,by simpa using h⟩
theorem OW.open {g:Nat} {xs:List Nat} {v:Value} {w:World} (h:OW g xs v w):∃off c,v = .slice (some ⟨g,off,none⟩) xs.length c/\xs.length<=c/\∀i,i<xs.length->w.cell? ⟨g,off+i,none⟩=some (.int .u64 (xs.getD i 0:Nat)):=by obtain⟨P,Q,rfl,hb⟩:=h;exact⟨_,_,rfl,by omega,λi hi=>by rw[hb.cell,mS _ _ _ _ hi]⟩
theorem I2:∀{xs:List Nat},aC aa xs->∃r,xs=af aa (val aa xs)++List.replicate r 0:=by
 intro xs;induction xs with
 | nil=>intro _;exact⟨0,by rw[kN,aX];rfl⟩
 | cons x xs ih=>
  intro hd;obtain⟨r,hr⟩:=ih hd.tail;by_cases h0:val aa (x::xs)=0
  ·rw[h0,aX];rw[ck] at h0;have hx:x=0:=by omega
   have hv:val aa xs=0:=by
    rcases GQ.1 (show aa*val aa xs=0 from by omega) with h | h
    ·unfold aa at h;omega
    ·exact h
   rw[hv,aX] at hr;exact⟨r+1,by rw[hx,AD,Aj];congr 1⟩
  ·have hx:=hd.head;refine⟨r,?_⟩;rw[cV an h0,ck,yw,nK hx,Av _ _ (by unfold aa;omega),sD hx,kJ,Ce,<-hr]
theorem OW.af {g:Nat} {P xs Q:List Nat} {w:World} (hd:aC aa xs) (hb:ar w g 23 (U (P++xs++Q))) :
  OW g (af aa (val aa xs)) (.slice (some ⟨g,P.length,none⟩) (Go.Proofs.YtnciifikfkpanaaGreatDoor.af aa (val aa xs)).length (xs.length+Q.length)) w:=by
 obtain⟨r,hr⟩:=I2 hd
 refine⟨P,List.replicate r 0++Q,?_,?_⟩
 ·have hl:=Co List.length hr
  rw[c6,tO] at hl
  rw[c6,tO,<-yf,<-hl]
 ·rw[<-vv,vv P,<-hr]
  exact hb
theorem a4O (g off c:Nat) (xs:List Nat) (w:World) (hl:xs.length<=c) (hc:xs.length<=1099511627776) (hd:aC aa xs) (aK:∀i,i<xs.length->w.cell? ⟨g,off+i,none⟩=some (.int .u64 (xs.getD i 0:Nat))) :
  Calls Tryz.prog 180 #[.slice (some ⟨g,off,none⟩) xs.length c] w λe w'=>e = .returned (.slice (some ⟨g,off,none⟩) (af aa (val aa xs)).length c)/\w=w':=by
 have HC:=aad aK
 clear aK
 go_enter Tryz.func180,Tryz.ntmps180
 go_wp2
 go_loop [0] (λv=>∃m:Nat,m<=xs.length/\v = .slice (some ⟨g,off,none⟩) m c/\Hid (val aa (xs.take m)=val aa xs)) (λv=>match v with | .slice _ n _=>n | _=>0)
 case atStart=>exact⟨xs.length,bX _,rfl,aad (by rw[qY])⟩
 case round=>
  obtain⟨m,hm,rfl,hv⟩:=hrel
  by_cases yB:m=0
  ·subst yB
   go_wp2
   go_ret
   refine⟨?_,rfl⟩
   have:=kC an hd hm hv.out (by omega)
   rw[this];simp
  ·obtain⟨m,rfl⟩:∃k,m=k+1:=⟨m-1,by omega⟩
   have uF:=HC.out m (by omega)
   by_cases hx:xs.getD m 0=0
   ·rw[hx] at uF
    go_wp2
    go_round
    case rel=>exact⟨m,by omega,rfl,aad (by rw[<-ql hx];exact hv.out)⟩
    case measure=>simp
   ·have hb:((xs.getD m 0:Nat):Int)≠0:=by omega
    have kP:(((xs.getD m 0:Nat):Int) == 0)=false:=pN.2 hb
    generalize hy:xs.getD m 0=y at *
    have HY:=aad hy
    clear hy
    go_wp2
    go_ret
    refine⟨?_,rfl⟩
    have:=kC an hd hm hv.out (λ_=>by rw[pK,HY.out];exact hx)
    rw[this,iY,pw hm]
    rfl
theorem zI {g:Nat} {xs:List Nat} {v:Value} {w:World} (h:OW g xs v w) (hl:xs.length<=1099511627776) (hd:aC aa xs) :
  Calls Tryz.prog 180 #[v] w λe w'=>∃v',e = .returned v'/\OW g (af aa (val aa xs)) v' w/\w=w':=by
 obtain⟨P,Q,rfl,hb⟩:=h
 refine(a4O g P.length (xs.length+Q.length) xs w (by omega) hl hd (λi hi=>by rw[hb.cell,mS _ _ _ _ hi])).mono ?_
 rintro e w' ⟨rfl,rfl⟩
 exact⟨_,rfl,OW.af hd hb,rfl⟩
def cK (w:World):Prop:=TabAt 2 Lib.deBruijn64tab w/\aNC w
theorem cK.ext {w w':World} (h:cK w) (e:Ext w w'):cK w':=⟨λi hi=>e.ak (h.1 i hi),h.2.ext e⟩
theorem tz64_core (x k idx:Nat) (w:World) (vC:((x:Int) == 0)=false)
  (key:IntKind.u64.wrap (bits BinOp.and IntKind.u64 (x:Int) (IntKind.u64.wrap (-(x:Int)))*285870213051353865)/288230376151711744=(idx:Int))
  (hi:idx<64) (hk:k<64) (aK:w.cell? ⟨2,idx,none⟩=some (.int .u8 k)) :
  Calls Tryz.prog 179 #[.int .u64 x] w λe w'=>e = .returned (.int .i64 k)/\w'=w:=by
 go_enter Tryz.func179,Tryz.ntmps179
 go_wp2_with (simp only[key])
 go_ret
 exact⟨rfl,rfl⟩
theorem O7 (x:Nat) (vC:x≠0) (hx:x<aa) (w:World) (ht:cK w):Calls Tryz.prog 179 #[.int .u64 x] w λe w'=>e = .returned (.int .i64 (Lib.ctz 64 x))/\w'=w:=by obtain⟨mj,hk⟩:=Lib.lowest_bit 64 x vC hx;obtain⟨hi,ET⟩:=Lib.deBruijn64_at _ hk;have aK:=ht.1 _ hi;rw[ET] at aK;exact tz64_core x _ _ w (by simp;omega) (tz64_key x _ hx vC mj) hi hk aK
theorem I3 (i j x:Nat) (ys:List Nat) (h:j<i):(List.replicate i 0++x::ys).getD j 0=0:=by rw[au,iR (by simpa using h)];simp[h]
theorem I4 (i x:Nat) (ys:List Nat):(List.replicate i 0++x::ys).getD i 0=x:=by rw[au,pq (by simp)];simp
theorem Bv (g off c i x:Nat) (ys xs:List Nat) (he:xs=List.replicate i 0++x::ys) (w:World) (hc:xs.length<=1099511627776) (h0:x≠0) (hx:x<aa) (ht:cK w)
  (aK:∀i,i<xs.length->w.cell? ⟨g,off+i,none⟩=some (.int .u64 (xs.getD i 0:Nat))) :
  Calls Tryz.prog 154 #[.slice (some ⟨g,off,none⟩) xs.length c] w λe w'=>e = .returned (.int .i64 (64*i+Lib.ctz 64 x:Nat))/\w=w':=by
 have HC:=aad aK
 have hi:i<xs.length:=by rw[he];simp
 have H0:Hid (∀j,j<i->xs.getD j 0=0):=aad (λj hj=>by rw[he];exact I3 i j x ys hj)
 have HX:Hid (xs.getD i 0=x):=aad (by rw[he];exact I4 i x ys)
 have hk:Lib.ctz 64 x<64:=(Lib.lowest_bit 64 x h0 hx).2
 have HT:=aad (O7 x h0 hx w ht)
 have kP:((x:Int) == 0)=false:=pN.2 (by omega)
 clear he aK ht h0
 generalize Lib.ctz 64 x=cz at *
 go_enter Tryz.func154,Tryz.ntmps154
 go_wp2
 go_loop [3] (λv=>∃m:Nat,m<=i/\v = .int .i64 m) (λv=>i-(intOf v).toNat)
 case atStart=>exact⟨0,ia _,rfl⟩
 case round=>
  obtain⟨m,hm,rfl⟩:=hrel
  by_cases hmi:m=i
  ·subst hmi
   have uF:=HC.out m hi
   rw[HX.out] at uF
   go_wp2_with (go_at_call 179;refine(HT.out).mono ?_;rintro e w' ⟨rfl,rfl⟩)
   go_ret
   exact⟨gi (by push_cast;omega),rfl⟩
  ·have uF:=HC.out m (by omega)
   rw[H0.out m (by omega)] at uF
   go_wp2
   go_round
   case rel=>exact⟨m+1,by omega,by go_num⟩
   case measure=>simp[intOf];omega
theorem uk (g off c:Nat) (xs:List Nat) (w:World) (hc:xs.length<=1099511627776) (hd:aC aa xs) (hv:0<val aa xs) (ht:cK w)
  (aK:∀i,i<xs.length->w.cell? ⟨g,off+i,none⟩=some (.int .u64 (xs.getD i 0:Nat))) :
  Calls Tryz.prog 154 #[.slice (some ⟨g,off,none⟩) xs.length c] w λe w'=>e = .returned (.int .i64 (tw (val aa xs):Nat))/\w=w':=by
 obtain⟨i,x,ys,he,h0⟩:=Ev hv
 have hx:x<aa:=hd x (by rw[he];simp)
 have h:=Bv g off c i x ys xs he w hc h0 hx ht aK
 rw[show tw (val aa xs)=64*i+Lib.ctz 64 x from by rw[he];exact O0 i ys h0 hx]
 exact h
def iM (p:Nat) (ys:List Nat) (k:Nat):List Nat:=(dn p ys).take k++ys.drop k
theorem yN (p:Nat) (ys:List Nat) (k:Nat):(iM p ys k).length=ys.length:=by unfold iM;rw[c6,iY,eQ,Cf];omega
theorem xl (p:Nat) (ys:List Nat) (k i:Nat) (h:k<=i) (hi:i<ys.length):(iM p ys k).getD i 0=ys.getD i 0:=by unfold iM;rw[au,au,pq (by rw[iY,eQ];omega),iY,eQ,pw (by omega),Aq];congr 2;omega
theorem I5 (p:Nat) (ys:List Nat) (k:Nat) (h:k<ys.length):(iM p ys k).set k (oP (ys.getD k 0) (ys.getD (k+1) 0) p)=iM p ys (k+1):=by
 unfold iM;have hl:((dn p ys).take k).length=k:=by rw[iY,eQ];omega
 rw[Cj _ _ (by omega),hl,Ay,tH h,Ge,yd (by rw[eQ];exact h),Bj,vv];rfl
theorem I6 (p:Nat) (ys:List Nat):iM p ys ys.length=dn p ys:=by unfold iM;rw[Ac,Ct,jo (by rw[eQ];exact bX _)]
theorem qP (g:Nat) (xs:List Nat) (v:Value) (w:World) (h:OW g xs v w) (hd:aC aa xs) (hv:0<val aa xs) (hl:xs.length<=10000000000) (ht:cK w) :
  Calls Tryz.prog 155 #[v] w λe w'=>∃v',e = .returned v'/\OW g (af aa (od (val aa xs))) v' w'/\bS g w w':=by
 obtain⟨P,Q,rfl,hb⟩:=h
 have nk:tw (val aa xs)<64*xs.length:=zG hv (by have:=cl hd;rw[iy] at this;exact this)
 have HZ:=aad (uk g P.length (xs.length+Q.length) xs w (by omega) hd hv ht (λi hi=>by rw[hb.cell,mS _ _ _ _ hi]))
 have rO:=MX hd (tw (val aa xs)) (by omega)
 have ft:od (val aa xs)=val aa xs/2^tw (val aa xs):=rfl
 rw[ft,<-rO]
 clear ft rO ht
 generalize tw (val aa xs)=d at *
 have hqx:d/64<xs.length:=by omega
 obtain⟨P',hP'⟩:∃P',P++xs.take (d/64)=P':=⟨_,rfl⟩
 obtain⟨ys,hys⟩:∃ys,xs.drop (d/64)=ys:=⟨_,rfl⟩
 have hPl:P'.length=P.length+d/64:=by rw[<-hP'];simp;omega
 have lS:ys.length=xs.length-d/64:=by rw[<-hys];simp
 have cX:ar w g 23 (U (P'++ys++Q)):=by rw[<-hP',<-hys,vv P,uX];exact hb
 have uR:aC aa ys:=by rw[<-hys];exact hd.drop _
 rw[hys]
 have HT:Hid (∀W,OW g (dn (d%64) ys) (.slice (some ⟨g,P'.length,none⟩) ys.length (ys.length+Q.length)) W->Calls Tryz.prog 180 #[.slice (some ⟨g,P'.length,none⟩) ys.length (ys.length+Q.length)] W λe w'=>∃v',e = .returned v'/\OW g (af aa (val aa (dn (d%64) ys))) v' W/\W=w'):=aad λW hW=>zI hW (by rw[eQ];omega) (Bk (by omega) uR)
 have zJ:ys.length+Q.length=xs.length+Q.length-d/64:=by omega
 rw[hPl,zJ,lS] at HT
 have HB:Hid (ar w g 23 (U (P'++iM (d%64) ys 0++Q))):=aad (by unfold iM;rw[List.take_zero,CT,Aj];exact cX)
 have HDY:=aad uR
 have I7:=aad hPl
 have kt:=aad lS
 have UJ:=aad zJ
 clear hP' hys hb hv hd cX uR nk zJ hPl lS
 go_enter Tryz.func155,Tryz.ntmps155
 go_wp2_with fail
 refine(HZ.out).mono ?_
 rintro e w1 ⟨rfl,rfl⟩
 go_wp2
 go_loopw [16] (λi wr=>∃k:Nat,k<=xs.length-d/64/\i = .int .i64 k/\Hid (ar wr g 23 (U (P'++iM (d%64) ys k++Q)))/\Hid (bS g w wr)) (λi _=>xs.length-d/64-(intOf i).toNat)
 case atStart=>exact⟨0,ia _,rfl,HB,aad (bS.refl _ _)⟩
 case round=>
  obtain⟨k,hk,rfl,aZ,bg⟩:=hrel
  by_cases dq:k<xs.length-d/64
  ·have kW:k<ys.length:=by have:=kt.out;omega
   have hml:=yN (d%64) ys k
   have cU:wr.cell? ⟨g,P.length+d/64+k,none⟩=some (.int .u64 (ys.getD k 0:Nat)):=by rw[aZ.out.cell,<-I7.out,mS _ _ _ _ (by omega),xl _ _ _ _ (bX _) kW]
   have hc2:k+1<ys.length->wr.cell? ⟨g,P.length+d/64+(k+1),none⟩=some (.int .u64 (ys.getD (k+1) 0:Nat)):=λh=>by rw[aZ.out.cell,<-I7.out,mS _ _ _ _ (by omega),xl _ _ _ _ (by omega) h]
   have hf1:wr.frozen? ⟨g,P.length+d/64+k,none⟩=false:=aZ.out.frozen _
   have bw:ys.getD k 0<aa:=HDY.out.getD (by unfold aa;omega) _
   have um:Hid (∀z:Nat,z=oP (ys.getD k 0) (ys.getD (k+1) 0) (d%64)->(U (P'++iM (d%64) ys k++Q)).set (P.length+d/64+k) (.int .u64 (z:Nat))=U (P'++iM (d%64) ys (k+1)++Q)):=aad λz hz=>by subst hz;rw[<-I7.out,ES _ _ _ _ _ (by omega),I5 _ _ _ kW]
   clear hml
   by_cases Dz:k+1<xs.length-d/64
   ·have EI:=hc2 (by have:=kt.out;omega)
    clear hc2
    generalize ys.getD k 0=x at *
    generalize ys.getD (k+1) 0=x2 at *
    go_wp2
    have cF:=aZ.out.set (P.length+d/64+k) (.int .u64 ((x/2^(d%64):Nat):Int))
    have xi:=bg.out.set (P.length+d/64+k) (.int .u64 ((x/2^(d%64):Nat):Int))
    have aeh:(wr.setCell ⟨g,P.length+d/64+k,none⟩ (.int .u64 ((x/2^(d%64):Nat):Int))).cell? ⟨g,P.length+d/64+(k+1),none⟩=some (.int .u64 x2):=(World.cell?_setCell_other wr _ _ _ (λe=>by injection e with _ e;omega)).trans EI
    have ev:(x:Int)/2^(d%64)=((x/2^(d%64):Nat):Int):=by push_cast;rfl
    rw[ev]
    have fP:(wr.setCell ⟨g,P.length+d/64+k,none⟩ (.int .u64 ((x/2^(d%64):Nat):Int))).cell? ⟨g,P.length+d/64+k,none⟩=some (.int .u64 ((x/2^(d%64):Nat):Int)):=by rw[cF.cell,yk];have:=aZ.out.cell (P.length+d/64+k);rw[cU] at this;exact(tD.1 this.symm).1
    generalize wr.setCell ⟨g,P.length+d/64+k,none⟩ (.int .u64 ((x/2^(d%64):Nat):Int))=W2 at *
    have EF:W2.frozen? ⟨g,P.length+d/64+k,none⟩=false:=cF.frozen _
    have nZ:=aad cF
    have IZ:=aad xi
    generalize UC:x/2^(d%64)=xq at *
    have HXQ:=aad UC
    clear cF xi aZ bg cU EI hf1 UC ev
    have fV:=MY (y:=x) (y':=x2) (p:=d%64) (by omega) bw
    rw[HXQ.out] at fV
    have UD:=aad fV
    clear fV
    go_region
    rw[UD.out]
    go_wp2
    go_roundw
    case rel=>
     refine⟨k+1,by omega,by go_num,aad ?_,aad ((IZ.out.set _ _).trans (bS.aO (Ext.refl _).drew))⟩
     have h:=nZ.out.set (P.length+d/64+k) (.int .u64 (oP x x2 (d%64):Nat))
     rw[List.set_set,um.out _ rfl] at h
     exact h
    case measure=>simp[intOf];omega
   ·have EJ:ys.getD (k+1) 0=0:=jy _ _ (by have:=kt.out;omega)
    rw[EJ] at um
    clear hc2 EJ
    generalize ys.getD k 0=x at *
    have ev:(x:Int)/2^(d%64)=((oP x 0 (d%64):Nat):Int):=by unfold oP;rw[Nat.zero_mod,Ai,qX];push_cast;rfl
    have EV:=aad ev
    clear ev
    go_wp2
    rw[EV.out]
    go_roundw
    case rel=>
     refine⟨k+1,by omega,by go_num,aad ?_,aad (bg.out.set _ _)⟩
     have h:=aZ.out.set (P.length+d/64+k) (.int .u64 (oP x 0 (d%64):Nat))
     rw[um.out _ rfl] at h
     exact h
    case measure=>simp[intOf];omega
  ·obtain rfl:k=xs.length-d/64:=by omega
   have hb:=aZ.out
   have lS:=kt.out
   rw[<-lS,I6] at hb
   have O8:OW g (dn (d%64) ys) (.slice (some ⟨g,P.length+d/64,none⟩) (xs.length-d/64) (xs.length+Q.length-d/64)) wr:=⟨P',Q,by rw[I7.out,eQ,lS,<-UJ.out,lS],hb⟩
   have HC2:=aad (HT.out wr O8)
   clear hb lS O8
   go_wp2_with fail
   refine(HC2.out).mono ?_
   rintro e w3 ⟨v',rfl,O8,rfl⟩
   go_wp2
   go_ret
   exact⟨_,rfl,O8,bg.out⟩
theorem xm:Tryz.prog.globalNamed "math/bits.deBruijn64tab" = some 2:=by kernel_rfl
def vk:List Int:=List.map (λn:Nat=>(n:Int)) Lib.deBruijn64tab
theorem Bw {w:World} (h:Lib.TabIs Tryz.prog w "math/bits.deBruijn64tab" .u8 vk) (D4:aNC w):cK w:=by
 refine⟨λj hj=>?_,D4⟩;rw[h.cell xm j (by unfold vk;rw[uY];exact hj)];unfold vk;simp[au,vu,bF hj]
theorem EU {W:World} {rest:List (String×DataW Unit)} {d:DataW Unit} (e:d=Lib.tabData .u8 vk) (h:laidMet Tryz.prog (("math/bits.deBruijn64tab",d)::rest) W) (D4:aNC W):cK W:=by
 subst e;exact Bw (Lib.tabIs_of_head xm (by kernel_rfl) Tryz.underlying231 Tryz.underlying5 (by kernel_rfl) (by kernel_rfl) h) D4
end Go.Proofs.YtnciifikfkpanaaGreatDoor
namespace Go.Proofs.YtnciifikfkpanaaGreatDoor.AM
open Go.RowKit
def T0:vN:=⟨36,38,40,66,68,70⟩
noncomputable def cfg (L:List az) (M:List lE:=[]) (M2:List awe:=[]):bO:=⟨Tryz.prog,T0,cK,L,M,0,λ_=>undef,M2⟩
theorem Zg:dI cK where
 ak B0 w w' e hd h:=⟨λi hi=>(World.cell?_of_block (a:=⟨_,i,none⟩) (e.block _ (Tf (h.1 i hi)) (hd _ rfl))).trans (h.1 i hi),trivial⟩
 size w g h hg:=by obtain rfl:=hg;exact Tf (h.1 0 (by decide))
def bd:List az->Prop
 | []=>True
 | c::l=>ah (cfg []) c/\bd l
theorem bd.at:∀{l:List az} {L:List az},bd l->∀ct∈l,ah (cfg L) ct
 | [],_,_,_,h=>by cases h
 | c::l,L,h,ct,hm=>by
  rcases tQ.1 hm with e | hm
  ·rw[e];exact⟨h.1.mu,h.1.ok⟩
  ·exact bd.at h.2 ct hm
def ku:List lE->Prop
 | []=>True
 | c::l=>AQ (cfg []) c/\ku l
theorem bp:ku []:=trivial
structure Pf (p:Prop):Prop where
 h:p
theorem aY {p q:Prop} (e:p=q) (h:q):Pf p:=by subst e;exact⟨h⟩
theorem ku.at:∀{l:List lE} {C:bO},C.P=Tryz.prog->C.Tb=cK->ku l->∀ct∈l,AQ C ct
 | [],_,_,_,_,_,h=>by cases h
 | c::l,⟨_,_,_,_,_,_,_,_⟩,rfl,rfl,h,ct,hm=>by
  rcases tQ.1 hm with e | hm
  ·rw[e];exact⟨h.1.mu,h.1.ok⟩
  ·exact ku.at rfl rfl h.2 ct hm
def aA7:List awe->Prop
 | []=>True
 | c::l=>aDL (cfg []) c/\aA7 l
theorem aYt:aA7 []:=trivial
theorem aA7.at:∀{l:List awe} {C:bO},C.P=Tryz.prog->C.Tb=cK->aA7 l->∀ct∈l,aDL C ct
 | [],_,_,_,_,_,h=>by cases h
 | c::l,⟨_,_,_,_,_,_,_,_⟩,rfl,rfl,h,ct,hm=>by
  rcases tQ.1 hm with e | hm
  ·rw[e];exact⟨h.1.mu,h.1.ok⟩
  ·exact aA7.at rfl rfl h.2 ct hm
theorem aWg {L:List az} {M:List lE} {M2:List awe} (hL:bd L) (hM:ku M) (h2:aA7 M2):nW (cfg L M M2):=⟨λct hm=>⟨(hL.at (L:=L) ct hm).mu,(hL.at (L:=L) ct hm).ok⟩,hM.at rfl rfl,h2.at rfl rfl⟩
theorem cok {L:List az} {M:List lE} (hL:bd L) (hM:ku M):nW (cfg L M):=aWg hL hM aYt
theorem jl {L:List az} {M:List lE} {ct:az} {fn:Func} (hL:bd L) (hM:ku M) (hf:Tryz.prog.funcs[ct.f]? = some fn) (hb:fn.body=some (fn.body.getD .skip)) (hn:(fn.name == "runtime.NumGoroutine")=false) (jM:ct.fresh=false) (hl:Nat.ble fn.results.size 4=true)
  (H:∀args g r hn,ct.c args=some (g,r,hn)->bt g->cJ args->hn=[]/\Nat.ble args.length fn.ntmps=true/\∃A,awp (cfg L M) A fn.ntmps (fn.body.getD .skip) (MS (cfg L M) fn.results.toList r) ⟨apL 0 args,[]⟩):ah (cfg []) ct:=
 have h:ah (cfg L M) ct:=abT (C:=cfg L M) Zg (cok hL hM) hf hb (enters_of hf hn hb) rfl jM (yW hl) λargs g r hn hc hg hft=>by obtain⟨h1,h2,h3⟩:=H args g r hn hc hg hft;exact⟨h1,yW h2,h3⟩
 ⟨h.mu,h.ok⟩
theorem fnq {L:List az} {M:List lE} {ct:az} {fn:Func} (hL:bd L) (hM:ku M) (hf:Tryz.prog.funcs[ct.f]? = some fn)
    (H:∀args g r hn,ct.c args=some (g,r,hn)->bt g->cJ args->hn=[]/\Nat.ble args.length fn.ntmps=true/\∃A,awp (cfg L M) A fn.ntmps (fn.body.getD .skip) (MS (cfg L M) fn.results.toList r) ⟨apL 0 args,[]⟩) (hb:fn.body=some (fn.body.getD .skip):=by kernel_rfl) (hn:(fn.name == "runtime.NumGoroutine")=false:=by kernel_rfl) (jM:ct.fresh=false:=by exact rfl) (hl:Nat.ble fn.results.size 4=true:=by kernel_rfl):ah (cfg []) ct:=jl hL hM hf hb hn jM hl H
theorem oY {L:List az} {M:List lE} {ct:az} {fn:Func} (hL:bd L) (hM:ku M) (hf:Tryz.prog.funcs[ct.f]? = some fn) (hb:fn.body=some (fn.body.getD .skip)) (hn:(fn.name == "runtime.NumGoroutine")=false) (jM:ct.fresh=false)
  (H:∀args g r hn,ct.c args=some (g,r,hn)->bt g->cJ args->Nat.ble args.length fn.ntmps=true/\∃ob X A,hn=[ob]/\qD ob=true/\okR r=true/\awp (cfg L M) A fn.ntmps (fn.body.getD .skip) (jj fn.results.toList r X ob) ⟨apL 0 args,[]⟩):ah (cfg []) ct:=
 have h:ah (cfg L M) ct:=YQ (C:=cfg L M) Zg (cok hL hM) hf hb (enters_of hf hn hb) rfl jM λargs g r hn hc hg hft=>by obtain⟨h1,h2⟩:=H args g r hn hc hg hft;exact⟨yW h1,h2⟩
 ⟨h.mu,h.ok⟩
theorem alr {L:List az} {M:List lE} {ct:lE} {fn:Func} (hL:bd L) (hM:ku M) (hf:Tryz.prog.funcs[ct.f]? = some fn) (hb:fn.body=some (fn.body.getD .skip)) (hn:(fn.name == "runtime.NumGoroutine")=false)
  (H:∀args ob g r ob',ct.c args ob=some (g,r,ob')->bt g->cJ args->Nat.ble args.length fn.ntmps=true/\∃sz A,args[ct.pos]? = some (.own dj 0 sz)/\∀gh,awp (acp (cfg L M) (ct.pos+1) gh) A fn.ntmps (fn.body.getD .skip) (agE fn.results.toList r ct.pos sz ob') ⟨apL 0 args,[(dj,ob)]⟩):AQ (cfg []) ct:=
 have h:AQ (cfg L M) ct:=aiV (C:=cfg L M) Zg (cok hL hM) hf hb (enters_of hf hn hb) λargs ob g r ob' hc hg hft=>by obtain⟨h1,h2⟩:=H args ob g r ob' hc hg hft;exact⟨yW h1,h2⟩
 ⟨h.mu,h.ok⟩
theorem VL.one {ok:Nat->Prop} {w:World} {β:Bm} {a:AV} {vs:List Value} (h:VL ok w β [a] vs):∃u,vs=[u]/\aq ok w β a u:=by
 match vs,h with
 | [u],h=>exact⟨u,rfl,h.1⟩
theorem VL.two {ok:Nat->Prop} {w:World} {β:Bm} {a b:AV} {vs:List Value} (h:VL ok w β [a,b] vs):∃u v,vs=[u,v]/\aq ok w β a u/\aq ok w β b v:=by
 match vs,h with
 | [u,v],h=>exact⟨u,v,rfl,h.1,h.2.1⟩
abbrev Gv (r:AV) (w:World) (e:Ending) (w':World):Prop:=∃v,e = .returned v/\Ext w w'/\aq (λ_=>False) w' dX r v
theorem EW {L:List az} {ct:az} (rP:∀args w,(callFunc ct.f args).run Tryz.prog w = .ok (.enter ct.f args) w)
  (H:∀args g r hn,ct.c args=some (g,r,hn)->bt g->hn=[]/\r.flat=true/\∀(F:Nat->Prop) w vs,cK w->VL F w dX args vs->Calls Tryz.prog ct.f vs.toArray w (Gv r w)):ah (cfg L) ct where
 mu:=rP
 ok args g r hn hc hg F w vs htb mB:=by
  obtain⟨rfl,fQ,h⟩:=H args g r hn hc hg;refine Calls.mono (h F w vs htb mB) λe w' hr=>?_;obtain⟨v,rfl,gO,c,h3,h4⟩:=hr;have Bg:∀{g},¬OB dX [] g:=λh=>by obtain⟨_,_,_,_,h,_⟩:=h;cases h
  exact⟨v,dX,rfl,⟨.aO gO,λg hg=>(Bg hg).elim,λ_ _ _ _ _ _ _ _ _ h=>(by cases h),λ_ _ h=>(by cases h),⟨htb,λ_ _ h=>h⟩⟩,c,h3.flat fQ,h4⟩
def on1 (K:Kd) (g:K.T->Option Prop) (r:K.T->AV):List AV->Option (Option Prop×AV×List Ob)
 | [.k K' x]=>if h:K'=K then some (g (h ▸ x),r (h ▸ x),[]) else none
 | _=>none
def on2 (K J:Kd) (g:K.T->J.T->Option Prop) (r:K.T->J.T->AV):List AV->Option (Option Prop×AV×List Ob)
 | [.k K' x,.k J' y]=>if h:K'=K then (if h':J'=J then some (g (h ▸ x) (h' ▸ y),r (h ▸ x) (h' ▸ y),[]) else none) else none
 | _=>none
theorem nB {L:List az} {f:FuncId} {K:Kd} {g:K.T->Option Prop} {r:K.T->AV} (rP:∀args w,(callFunc f args).run Tryz.prog w = .ok (.enter f args) w) (fQ:∀x,(r x).flat=true)
  (h:∀(F:Nat->Prop) x u w,bt (g x)->cK w->aq F w dX (.k K x) u->Calls Tryz.prog f #[u] w (Gv (r x) w)):ah (cfg L) ⟨f,false,on1 K g r⟩:=
 EW rP λargs g' r' hn hc hg=>by
  replace hc:on1 K g r args=some (g',r',hn):=hc;unfold on1 at hc;split at hc
  ·split at hc
   ·rename_i K' x e;subst e
    cases hc;refine⟨rfl,fQ _,λF w vs ht hv=>?_⟩;obtain⟨u,rfl,h4⟩:=hv.one;exact h F x u w hg ht h4
   ·cases hc
  ·cases hc
theorem iN {L:List az} {f:FuncId} {K J:Kd} {g:K.T->J.T->Option Prop} {r:K.T->J.T->AV} (rP:∀args w,(callFunc f args).run Tryz.prog w = .ok (.enter f args) w) (fQ:∀x y,(r x y).flat=true)
  (h:∀(F:Nat->Prop) x y u v w,bt (g x y)->cK w->aq F w dX (.k K x) u->aq F w dX (.k J y) v->Calls Tryz.prog f #[u,v] w (Gv (r x y) w)):ah (cfg L) ⟨f,false,on2 K J g r⟩:=
 EW rP λargs g' r' hn hc hg=>by
  replace hc:on2 K J g r args=some (g',r',hn):=hc;unfold on2 at hc;split at hc
  ·split at hc
   ·split at hc
    ·rename_i K' x J' y e e';subst e;subst e'
     cases hc;refine⟨rfl,fQ _ _,λF w vs ht hv=>?_⟩;obtain⟨u,v,rfl,h4,h5⟩:=hv.two;exact h F x y u v w hg ht h4 h5
    ·cases hc
   ·cases hc
  ·cases hc
theorem aH {p:Prop} [Decidable p] {X Y:Prop} (h1:p->X) (h2:¬p->Y):cond (decide p) X Y:=by
 by_cases h:p
 ·rw[tC h];exact h1 h
 ·rw[nS h];exact h2 h
theorem dP {p:Prop} [Decidable p] {X Y:Prop} (h1:¬p->X) (h2:p->Y):cond (!decide p) X Y:=by
 by_cases h:p
 ·rw[tC h];exact h2 h
 ·rw[nS h];exact h1 h
theorem nC {b:Bool} {X Y:Prop} (h1:b=true->X) (h2:b=false->Y):cond b X Y:=by
 cases b with
 | true=>exact h1 rfl
 | false=>exact h2 rfl
noncomputable abbrev aw (L:List az) (M:List lE) (A:bk) (fn:Func) (r:AV) (args:List AV):Prop:=awp (cfg L M) A fn.ntmps (fn.body.getD .skip) (MS (cfg L M) fn.results.toList r) ⟨apL 0 args,[]⟩
def UK (fn:Func):Bool:=fn.body.isSome&&(!(fn.name == "runtime.NumGoroutine")&&Nat.ble fn.results.size 4)
theorem cf {L:List az} {M:List lE} {ct:az} {fn:Func} (hL:bd L) (hM:ku M) (hf:Tryz.prog.funcs[ct.f]? = some fn)
  (H:∀args g r hn,ct.c args=some (g,r,hn)->bt g->cJ args->hn=[]/\Nat.ble args.length fn.ntmps=true/\∃A,awp (cfg L M) A fn.ntmps (fn.body.getD .skip) (MS (cfg L M) fn.results.toList r) ⟨apL 0 args,[]⟩) (hb:(UK fn && !ct.fresh)=true:=by kernel_rfl):ah (cfg []) ct:=by
 unfold UK at hb
 rw[aI,aI,aI] at hb
 obtain⟨⟨h1,h2,h3⟩,h4⟩:=hb
 refine jl hL hM hf ?_ (by cases h:fn.name == "runtime.NumGoroutine" with | false=>rfl | true=>rw[h] at h2;cases h2) (by cases h:ct.fresh with | false=>rfl | true=>rw[h] at h4;cases h4) h3 H
 cases h:fn.body with
 | none=>rw[h] at h1;cases h1
 | some c=>rfl
theorem aN {α β γ:Type} {a d:α} {b e:β} {c f:γ} (h:some (a,b,c)=some (d,e,f)):a=d/\b=e/\c=f:=by injection h with h;injection h with h1 h;injection h with h2 h3;exact⟨h1,h2,h3⟩
abbrev CF:=List AV->Option (Option Prop×AV×List Ob)
abbrev LM:=List (List Rat)
def nU:Nat->Nat:=λ_=>0
def nL:Nat->Option aav:=λ_=>none
def nR:Nat->Option aaw:=λ_=>none
end Go.Proofs.YtnciifikfkpanaaGreatDoor.AM
namespace Go.Proofs.YtnciifikfkpanaaGreatDoor
open Go.RowKit
theorem I8 {a b j:Nat} (h:(af aa a).length=(af aa b).length) (hj:j<(af aa a).length) (hd:(af aa a).drop (j+1)=(af aa b).drop (j+1))
  (ay:(af aa a).getD j 0≠(af aa b).getD j 0):bG ((af aa a).getD j 0) ((af aa b).getD j 0)=bG a b:=by
 have EC:j<(af aa b).length:=by omega
 have da:=aL an a
 have db:=aL an b
 have va:=amE an a
 have vb:=amE an b
 rw[aP _ _ hj,aP _ _ EC] at ay ⊢
 rcases aV (af aa a)[j] (af aa b)[j] with h' | h'
 ·have:=jc da h hj hd h'
  rw[va,vb] at this
  rw[di this,di h']
 ·have h':(af aa b)[j]<(af aa a)[j]:=by omega
  have:=jc db h.symm EC hd.symm h'
  rw[va,vb] at this
  rw[dB this,dB h']
theorem yO (g1 g2 a b:Nat) (v1 v2:Value) (w:World) (h1:OW g1 (af aa a) v1 w) (h2:OW g2 (af aa b) v2 w) (ha:bl a<=549755813888) (hb:bl b<=549755813888) :
  Calls Tryz.prog 156 #[v1,v2] w (cg (.int .i64 (bG a b)) w):=by
 have jh:=dJ a ha
 have kh:=dJ b hb
 have gJ:=aL an a
 have hZ:=aL an b
 obtain⟨off,c,rfl,_,hh⟩:=h1.open
 obtain⟨fI,c',rfl,_,qN⟩:=h2.open
 clear h1 h2
 rcases uZ (af aa a).length (af aa b).length with h | h | h
 ·rw[di (fw an h)]
  have e1:(((af aa a).length:Int) != ((af aa b).length:Int))=true:=by simp;omega
  clear hh qN gJ hZ ha hb
  generalize (af aa a).length=p at *
  generalize (af aa b).length=q at *
  go_enter Tryz.func156,Tryz.ntmps156
  go_wp2
  go_ret
  exact⟨rfl,Ext.refl _⟩
 ·have hR:=λj hj hd ay=>I8 (a:=a) (b:=b) (j:=j) h hj hd ay
  have hE:af aa a=af aa b->bG a b=0:=λe=>by
   have:a=b:=by rw[<-amE an a,<-amE an b,e]
   subst this;unfold bG;simp
  have e1:(((af aa a).length:Int) != ((af aa b).length:Int))=false:=by simp;omega
  clear ha hb
  generalize af aa a=xs at *
  generalize af aa b=ys at *
  generalize bG a b=r at *
  have HH:=aad hh
  have IX:=aad qN
  have l9:=aad gJ
  have uQ:=aad hZ
  have IQ:=aad hR
  have HEE:=aad hE
  have HL:=aad h
  clear hh qN gJ hZ hR hE h
  go_enter Tryz.func156,Tryz.ntmps156
  go_wp2
  go_loopw [5] (λi wr=>∃j:Nat,j<=xs.length/\i = .int .i64 ((j:Int)-1)/\Hid (xs.drop j=ys.drop j)/\Hid (Ext w wr)) (λi _=>(intOf i+1).toNat)
  case atStart=>exact⟨xs.length,bX _,rfl,aad (by rw[Ac,HL.out,Ac]),aad (Ext.refl w)⟩
  case round=>
   obtain⟨j,hj,rfl,hd,hex⟩:=hrel
   by_cases qi:j=0
   ·subst qi
    have HE0:=aad (HEE.out (by simpa using hd.out))
    go_wp2
    go_ret
    exact⟨gi HE0.out.symm,hex.out⟩
   ·obtain⟨j,rfl⟩:∃k,j=k+1:=⟨j-1,by omega⟩
    rw[show((j+1:Nat):Int)-1=(j:Int) from by omega]
    have pZ:j<xs.length:=by omega
    have ld:j<ys.length:=by have:=HL.out;omega
    have ez:=hex.out.ak (HH.out j pZ)
    have mP:=hex.out.ak (IX.out j ld)
    have bw:xs.getD j 0<aa:=l9.out.getD (by unfold aa;omega) j
    have de:ys.getD j 0<aa:=uQ.out.getD (by unfold aa;omega) j
    have pO:xs.getD j 0=ys.getD j 0->xs.drop j=ys.drop j:=λe=>by rw[tH pZ,tH ld,hd.out,<-aP _ _ pZ,<-aP _ _ ld,e]
    have hR:=IQ.out j pZ hd.out
    have Un:=aad pO
    have uM:=aad hR
    clear pO hR hd
    generalize xs.getD j 0=x at *
    generalize ys.getD j 0=y at *
    rcases uZ x y with aU | he | aU
    ·have hr:r = -1:=by rw[<-uM.out (by omega),di aU]
     have bn:((x:Int) != (y:Int))=true:=by simp;omega
     have cF:(x:Int)<(y:Int):=by omega
     have Bu:=aad hr
     clear hr
     go_wp2
     go_quiet (fail)
     rename_i nq
     have UH:(wr.drewN nq).cell? ⟨g1,off+j,none⟩=some (.int .u64 x):=ez
     have UI:(wr.drewN nq).cell? ⟨g2,fI+j,none⟩=some (.int .u64 y):=mP
     have iX:=aad (hex.out.drewN nq)
     clear hex ez mP
     generalize wr.drewN nq=W6 at *
     go_wp2
     go_quiet (fail)
     go_wp2
     go_ret
     exact⟨gi Bu.out.symm,iX.out.drewN _⟩
    ·subst he
     have bn:((x:Int) != (x:Int))=false:=by simp
     go_wp2
     go_quiet (fail)
     go_wp2
     go_roundw
     case rel=>exact⟨j,by omega,rfl,aad (Un.out (by simp)),aad (hex.out.drewN _)⟩
     case measure=>simp[intOf]
    ·have hr:r=1:=by rw[<-uM.out (by omega),dB aU]
     have bn:((x:Int) != (y:Int))=true:=by simp;omega
     have cF:decide (x<y)=false:=nS (by omega)
     have Bu:=aad hr
     clear hr
     go_wp2
     go_quiet (fail)
     rename_i nq
     have UH:(wr.drewN nq).cell? ⟨g1,off+j,none⟩=some (.int .u64 x):=ez
     have UI:(wr.drewN nq).cell? ⟨g2,fI+j,none⟩=some (.int .u64 y):=mP
     have iX:=aad (hex.out.drewN nq)
     clear hex ez mP
     generalize wr.drewN nq=W6 at *
     go_wp2
     go_quiet (fail)
     go_wp2
     go_ret
     exact⟨gi Bu.out.symm,iX.out.drewN _⟩
 ·rw[dB (fw an h)]
  have e1:(((af aa a).length:Int) != ((af aa b).length:Int))=true:=by simp;omega
  have e2:decide ((af aa a).length<(af aa b).length)=false:=nS (by omega)
  clear hh qN gJ hZ ha hb
  generalize (af aa a).length=p at *
  generalize (af aa b).length=q at *
  go_enter Tryz.func156,Tryz.ntmps156
  go_wp2
  go_ret
  exact⟨rfl,Ext.refl _⟩
theorem oZ (g g2 a b:Nat) (v1 v2:Value) (w:World) (h1:OW g (af aa a) v1 w) (h2:OW g2 (af aa b) v2 w) (ay:g2≠g) (ha:bl a<=549755813888) (ko:b<=a) :
  Calls Tryz.prog 157 #[v1,v2] w λe w'=>∃v',e = .returned v'/\OW g (af aa (a-b)) v' w'/\bS g w w':=by
 have gH:=dJ a ha
 have lA:=oW ko
 obtain⟨P,Q,rfl,aaG⟩:=h1
 have aaH:=h2.lt
 obtain⟨off,c,rfl,_,aaI⟩:=h2.open
 have uS:Hid (∀W,bS g w W->∀i,i<(af aa b).length->W.cell? ⟨g2,off+i,none⟩=some (.int .u64 ((af aa b).getD i 0:Nat))):=aad λW hW i hi=>by rw[<-aaI i hi];exact World.cell?_of_block (a:=⟨g2,off+i,none⟩) (hW.block g2 aaH (λe=>ay (by injection e)))
 have xd:val aa (af aa a)=(a-b)+val aa (af aa b):=by rw[amE an,amE an];omega
 have IT:=aad xd
 have HDX:=aad (aL an a)
 have HDY:=aad (aL an b)
 have HB:=aad aaG
 clear aaI h2 aaH xd aaG ko ha ay
 generalize af aa a=X at *
 generalize af aa b=Y at *
 generalize a-b=n at *
 go_enter Tryz.func157,Tryz.ntmps157
 go_wp2
 go_loopw [5,10] (λc i wr=>∃(k cc:Nat) (L:List Nat),k<=X.length/\cc<=1/\i = .int .i64 k/\c = .int .u64 cc/\Hid (L.length=X.length/\aC aa L/\L.drop k=X.drop k/\val aa (X.take k)+cc*aa^k=val aa (L.take k)+val aa (Y.take k))/\Hid (ar wr g 23 (U (P++L++Q)))/\Hid (bS g w wr)) (λ_ i _=>X.length-(intOf i).toNat)
 case atStart=>refine⟨0,0,X,ia _,by omega,rfl,rfl,aad ⟨rfl,HDX.out,rfl,by simp⟩,HB,aad (bS.refl _ _)⟩
 case round=>
  obtain⟨k,cc,L,hk,cG,rfl,rfl,hL,aZ,bg⟩:=hrel
  by_cases dq:k<X.length
  ·have ez:wr.cell? ⟨g,P.length+k,none⟩=some (.int .u64 (X.getD k 0:Nat)):=by
    rw[aZ.out.cell,mS _ _ _ _ (by rw[hL.out.1];exact dq),jT hL.out.2.2.1 dq hL.out.1]
   have TX:wr.frozen? ⟨g,P.length+k,none⟩=false:=aZ.out.frozen _
   have bw:X.getD k 0<aa:=HDX.out.getD (by unfold aa;omega) k
   have de:Y.getD k 0<aa:=HDY.out.getD (by unfold aa;omega) k
   have oV:∀s q,X.getD k 0+aa*q=Y.getD k 0+cc+s->s<aa->(L.set k s).length=X.length/\aC aa (L.set k s)/\(L.set k s).drop (k+1)=X.drop (k+1)/\val aa (X.take (k+1))+q*aa^(k+1)=val aa ((L.set k s).take (k+1))+val aa (Y.take (k+1)):=by
    intro s q e hs;obtain⟨l1,l2,l3,l4⟩:=hL.out;refine⟨by simpa using l1,l2.set k hs,?_,?_⟩
    ·rw[eb,<-EX,<-EX,l3]
    ·rw[gP _ _ _ _ (by omega),aD aa X,aD aa Y,jV];exact sQ l4 e
   have HS:=aad oV
   have um:Hid (∀s:Nat,(U (P++L++Q)).set (P.length+k) (.int .u64 (s:Nat))=U (P++L.set k s++Q)):=aad λs=>ES P L Q k s (by rw[hL.out.1];exact dq)
   have hY:k<Y.length->wr.cell? ⟨g2,off+k,none⟩=some (.int .u64 (Y.getD k 0:Nat)):=λkW=>uS.out wr bg.out k kW
   have EG:¬k<Y.length->Y.getD k 0=0:=λh=>jy _ _ (by omega)
   have HY:=aad hY
   have xf:=aad EG
   clear oV hY EG
   generalize X.getD k 0=x at *
   by_cases kW:k<Y.length
   ·have mP:=HY.out kW
    clear xf
    generalize Y.getD k 0=y at *
    have qc:∀W,(callFunc 149 #[.int .u64 x,.int .u64 y,.int .u64 cc]).run Tryz.prog W = .ok (.value (.tuple #[.int .u64 (pQ x y cc:Nat),.int .u64 (oe x y cc:Nat)])) W:=λW=>sM x y cc cG W
    go_wp2
    go_roundw
    case rel=>exact⟨k+1,oe x y cc,L.set k (pQ x y cc),by omega,pA x y cc,by go_num,rfl,aad (HS.out _ _ (sN bw de cG) (pz x y cc)),aad (by rw[<-um.out];exact aZ.out.set _ _),aad (bg.out.set _ _)⟩
    case measure=>simp[intOf];omega
   ·have jE:=xf.out kW
    rw[jE] at HS
    clear HY xf jE de
    have qc:∀W,(callFunc 149 #[.int .u64 x,.int .u64 0,.int .u64 cc]).run Tryz.prog W = .ok (.value (.tuple #[.int .u64 (pQ x 0 cc:Nat),.int .u64 (oe x 0 cc:Nat)])) W:=λW=>sM x 0 cc cG W
    go_wp2
    go_roundw
    case rel=>exact⟨k+1,oe x 0 cc,L.set k (pQ x 0 cc),by omega,pA x 0 cc,by go_num,rfl,aad (HS.out _ _ (sN bw (by unfold aa;omega) cG) (pz x 0 cc)),aad (by rw[<-um.out];exact aZ.out.set _ _),aad (bg.out.set _ _)⟩
    case measure=>simp[intOf];omega
  ·obtain rfl:k=X.length:=by omega
   obtain⟨l1,l2,l3,l4⟩:=hL.out
   have fV:val aa X+cc*aa^X.length=val aa L+val aa Y:=by rw[qY,jo (l:=L) (by omega),jo lA] at l4;exact l4
   have e:val aa L=n:=by
    have h1:=IT.out;have h2:=cl l2;rw[l1] at h2;rcases gA cc with h0 | h0
    ·subst h0;omega
    ·obtain rfl:cc=1:=by omega
     omega
   have du:=zI (v:=.slice (some ⟨g,P.length,none⟩) X.length (X.length+Q.length)) ⟨P,Q,by rw[l1],aZ.out⟩ (by omega) l2
   rw[e] at du
   have IU:=aad du
   clear du e l1 l2 l3 l4 fV hL
   go_wp2_with fail
   refine(IU.out).mono ?_
   rintro e w3 ⟨v',rfl,O8,rfl⟩
   go_wp2
   go_ret
   exact⟨_,rfl,O8,bg.out⟩
theorem I9:(Tryz.prog.info? 5).map (λi=>(i.zero,i.size,i.bytes))=some (some (.int .u8 0),1,1):=by kernel_rfl
theorem xn (n:Nat) (hn:bl n<=549755813888) (w:World) :
  Calls Tryz.prog 145 #[.agg #[.int .u64 (lo (n):Nat),.string (hi (n))]] w (cA (mq w.heap.size (gR n)) w):=by
 have HB:=aad (λW=>kB n (by omega) W)
 have HW:=aad (λW=>fC n hn W)
 have hq:((bl n:Nat)+7:Int)/8=(nb n:Nat):=by unfold nb;omega
 have hbi:((bl n:Nat):Int)<=549755813888:=by omega
 have O9:nb n<=68719476737:=by unfold nb;omega
 have HI:Hid (∀i,i<nb n->i/8<(af aa n).length):=aad (λi hi=>y8 (s:=8) (by omega) n i hi)
 have HV:Hid (∀i,(af aa n).getD (i/8) 0/256^(i%8)%256=n/256^i%256):=aad (λi=>by rw[tV an];exact vH (s:=8) (by omega) n i)
 have HN:=aad hn
 clear hn
 generalize hL:af aa n=L at *
 generalize jh:lo n=la at *
 generalize qM:hi n=sa at *
 generalize hl:bl n=l at *
 generalize hN:nb n=N at *
 have E:=aad hN
 clear hL jh qM hl hN
 go_enter Tryz.func145,Tryz.ntmps145
 go_wp2_with fail
 refine(HB.out _).mono ?_
 rintro e w1 ⟨rfl,bU⟩
 have im:=aad bU
 clear bU
 go_wp2_with (at_make;refine cb _ rfl (.tmp 11) (.tmp 11) 192 5 rfl (.int .u8 0) 1 Tryz.underlying192 I9 rfl .i64 .i64 _ _ N rfl rfl ?c1 ?c1' ?c2 ?c3 ?_)
 case c1=>omega
 case c1'=>omega
 case c2=>omega
 case c3=>omega
 intro w2 fP jO cF
 have hp2:=((ar.new w 36 [.int .u64 la,.string sa]).ext im.out).ext fP
 have p0:w2.cell? ⟨w.heap.size,0,none⟩=some (.int .u64 la):=hp2.cell 0
 have p1:w2.cell? ⟨w.heap.size,1,none⟩=some (.string sa):=hp2.cell 1
 have iU:w.heap.size<=w1.heap.size:=j3 (by simp) im.out.size
 have mo:Hid (Ext w w2):=aad ((((Ext.refl w).alloc _).trans im.out).trans fP)
 have nZ:=aad cF
 clear fP cF hp2
 have UL:=aad iU
 clear iU jO
 generalize w1.heap.size=g at *
 go_wp2_with fail
 refine(HW.out _).mono ?_
 rintro e w3 ⟨v3,rfl,hf3,eR⟩
 obtain⟨A,c,rfl,hh⟩:=jG hf3
 have Ja:=aad (nZ.out.ext eR)
 have tq:=aad (mo.out.trans eR)
 have HF3:Hid (L≠[]->∃g',w2.heap.size<=g'/\c=L.length/\A=some ⟨g',0,none⟩/\ar w3 g' 23 (U L)):=aad hh
 have pc:=aad nZ.out.lt
 clear hf3 eR hh p0 p1
 go_wp2
 go_loopw [16] (λi wr=>∃k:Nat,k<=N/\i = .int .i64 k/\Hid (ar wr g 5 (Lib.byteCells (dH (gR n) k)))/\Hid (bS g w3 wr)) (λi _=>N-(intOf i).toNat)
 case atStart=>
  refine⟨0,by omega,rfl,aad ?_,aad (bS.refl _ _)⟩
  rw[aUt,kQ,b9,E.out]
  exact Ja.out
 case round=>
  obtain⟨k,hk,rfl,aZ,bg⟩:=hrel
  by_cases Bx:k<N
  ·have rf:=HI.out k Bx
   obtain⟨g',fc,rfl,rfl,UM⟩:=HF3.out (λe=>by rw[e] at rf;simp at rf)
   have ay:g'≠g:=by have:=pc.out;omega
   have aaJ:=bg.out.kO UM ay
   have hc:wr.cell? ⟨g',k/8,none⟩=some (.int .u64 (L.getD (k/8) 0:Nat)):=by rw[aaJ.cell (k/8),bQ _ _ rf]
   have hv:=HV.out k
   have cD:wr.cell? ⟨g,N-1-k,none⟩=some (.int .u8 0):=by rw[aZ.out.cell,<-E.out];exact tX n k (by rw[E.out];exact Bx)
   have hf:wr.frozen? ⟨g,N-1-k,none⟩=false:=aZ.out.frozen _
   have UE:=aad hv
   clear hv aaJ UM fc ay
   generalize L.getD (k/8) 0=x at *
   go_wp2
   refine⟨⟨k+1,by omega,rfl,aad ?_,aad (bg.out.set _ _)⟩,by simp[intOf];omega⟩
   have h:=aZ.out.set (N-1-k) (.int .u8 ((x:Int)/2^(8*(k%8))%256))
   rw[<-E.out,vI n k (by rw[E.out];exact Bx) _ (by rw[<-aVM,UE.out])] at h
   rw[<-E.out]
   exact h
  ·obtain rfl:k=N:=by omega
   clear hk Bx
   go_wp2
   go_ret
   have hb:=aZ.out
   have el:(gR n).length=k:=by rw[b9,E.out]
   refine⟨_,rfl,⟨g,UL.out,by rw[el];rfl,?_⟩,bg.out.ext tq.out UL.out⟩
   have h2:=qn (gR n)
   rw[el] at h2
   rw[h2] at hb
   exact hb
theorem yP (n:Nat) (hn:bl n<=549755813888) (v:Value) (w:World) (hR:bJ n v w) :
  Calls Tryz.prog 142 #[v] w (cA (mq w.heap.size (gR n)) w):=by
 have HB:=aad (rZ n v w hR (by omega))
 have hq:((bl n:Nat)+7:Int)/8=(nb n:Nat):=by unfold nb;omega
 have hbi:((bl n:Nat):Int)<=549755813888:=by omega
 have O9:nb n<=68719476737:=by unfold nb;omega
 have HI:Hid (∀i,i<nb n->i/4<(af ae n).length):=aad (λi hi=>y8 (s:=4) (by omega) n i hi)
 have HV:Hid (∀i,(af ae n).getD (i/4) 0/256^(i%4)%256=n/256^i%256):=aad (λi=>by rw[tV aE];exact vH (s:=4) (by omega) n i)
 obtain⟨A,c,rfl,yD,hh⟩:=hR
 have HF3:=aad hh
 clear hn hh
 generalize hL:af ae n=L at *
 generalize hl:bl n=l at *
 generalize hN:nb n=N at *
 have E:=aad hN
 clear hL hl hN yD
 go_enter Tryz.func142,Tryz.ntmps142
 go_wp2_with fail
 refine(HB.out).mono ?_
 rintro e w1 ⟨rfl,rfl⟩
 go_wp2_with (at_make;refine cb _ rfl (.tmp 10) (.tmp 10) 192 5 rfl (.int .u8 0) 1 Tryz.underlying192 I9 rfl .i64 .i64 _ _ N rfl rfl ?c1 ?c1' ?c2 ?c3 ?_)
 case c1=>omega
 case c1'=>omega
 case c2=>omega
 case c3=>omega
 intro w3 eR r7 fH
 have Ja:=aad fH
 have tq:=aad eR
 clear eR fH r7
 go_wp2
 go_loopw [5] (λi wr=>∃k:Nat,k<=N/\i = .int .i64 k/\Hid (ar wr w1.heap.size 5 (Lib.byteCells (dH (gR n) k)))/\Hid (bS w1.heap.size w3 wr)) (λi _=>N-(intOf i).toNat)
 case atStart=>
  refine⟨0,by omega,rfl,aad ?_,aad (bS.refl _ _)⟩
  rw[aUt,kQ,b9,E.out]
  exact Ja.out
 case round=>
  obtain⟨k,hk,rfl,aZ,bg⟩:=hrel
  by_cases Bx:k<N
  ·have rf:=HI.out k Bx
   obtain⟨g',off,rfl,fc,UM⟩:=HF3.out (λe=>by rw[e] at rf;simp at rf)
   have hc:wr.cell? ⟨g',off+k/4,none⟩=some (.int .u32 (L.getD (k/4) 0:Nat)):=(bg.out.ext tq.out (bX _)).ak (UM _ rf)
   have hv:=HV.out k
   have cD:wr.cell? ⟨w1.heap.size,N-1-k,none⟩=some (.int .u8 0):=by rw[aZ.out.cell,<-E.out];exact tX n k (by rw[E.out];exact Bx)
   have hf:wr.frozen? ⟨w1.heap.size,N-1-k,none⟩=false:=aZ.out.frozen _
   have UE:=aad hv
   clear hv UM fc
   generalize L.getD (k/4) 0=x at *
   go_wp2
   refine⟨⟨k+1,by omega,rfl,aad ?_,aad (bg.out.set _ _)⟩,by simp[intOf];omega⟩
   have h:=aZ.out.set (N-1-k) (.int .u8 ((x:Int)/2^(8*(k%4))%256))
   rw[<-E.out,vI n k (by rw[E.out];exact Bx) _ (by rw[<-aVM,UE.out])] at h
   rw[<-E.out]
   exact h
  ·obtain rfl:k=N:=by omega
   clear hk Bx
   go_wp2
   go_ret
   have hb:=aZ.out
   have el:(gR n).length=k:=by rw[b9,E.out]
   refine⟨_,rfl,⟨w1.heap.size,bX _,by rw[el];rfl,?_⟩,bg.out.ext tq.out (bX _)⟩
   have h2:=qn (gR n)
   rw[el] at h2
   rw[h2] at hb
   exact hb
open Classical in
structure nD (a x:Nat):Prop where
 pos:0<x
 up:a<(x+1)*(x+1)
 top:x<=2^bl a
theorem mT {fn:Func} {R:Ending->World->Prop} {a:Act} {w:World} {p p' q:Tmp} (g g':Nat) (x y x' y' v:Value) (hr:fn.results = #[.cell p 36,.cell p' 36,.tmp q])
  (hp:a.tmps.getD p undef = .pointer (some ⟨g,0,none⟩)) (hp':a.tmps.getD p' undef = .pointer (some ⟨g',0,none⟩)) (hq:a.tmps.getD q undef=v) (hb:ar w g 36 [x,y]) (kP:ar w g' 36 [x',y']) (hd:a.defers=[]) (hR:R (.returned (.tuple #[.agg #[x,y],.agg #[x',y'],v])) w):bodyPost Tryz.prog fn R .ret a w:=by
 refine bodyPost_ret ?_ hd hR
 have hl:=run_loadVar_row (P:=Tryz.prog) w g 36 36 #[x,y] (0,0) _ hb Tryz.underlying36 rfl (by kernel_rfl)
 have fk:=run_loadVar_row (P:=Tryz.prog) w g' 36 36 #[x',y'] (0,0) _ kP Tryz.underlying36 rfl (by kernel_rfl)
 have e1:a.tmps[p]?.getD undef = .pointer (some ⟨g,0,none⟩):=by simpa using hp
 have e2:a.tmps[p']?.getD undef = .pointer (some ⟨g',0,none⟩):=by simpa using hp'
 have e3:a.tmps[q]?.getD undef=v:=by simpa using hq
 simp[results,hr,e1,e2,e3,asAddr,hl,fk]
theorem r8 (w W:World) (la sa lb sb:Value) (h:(((w.alloc (.cells #[la,sa] 36)).alloc (.cells #[lb,sb] 36)).alloc (.cells #[.int .u64 0,.string ⟨#[]⟩] 36)).alloc (.cells #[.int .u64 0,.string ⟨#[]⟩] 36)=W) :
  ar W w.heap.size 36 [la,sa]/\ar W (w.heap.size+1) 36 [lb,sb]/\ar W (w.heap.size+1+1) 36 [.int .u64 0,.string ⟨#[]⟩]/\ar W (w.heap.size+1+1+1) 36 [.int .u64 0,.string ⟨#[]⟩]/\Ext w W:=by
 obtain⟨h1,h2,h3,h4⟩:=lB w _ la sa lb sb rfl
 subst h
 refine⟨h1.alloc _,h2.alloc _,h3.alloc _,?_,h4.alloc _⟩
 have h:=ar.new (((w.alloc (.cells #[la,sa] 36)).alloc (.cells #[lb,sb] 36)).alloc (.cells #[.int .u64 0,.string ⟨#[]⟩] 36)) 36 [.int .u64 0,.string ⟨#[]⟩]
 rw[World.size_alloc,World.size_alloc,World.size_alloc] at h
 exact h
theorem div_zero (a:Nat) (w:World) :
  Calls Tryz.prog 109 #[.agg #[.int .u64 (lo (a):Nat),.string (hi (a))],.agg #[.int .u64 (lo (0):Nat),.string (hi (0))]] w (cg (.tuple #[.agg #[.int .u64 (lo (0):Nat),.string (hi (0))],.agg #[.int .u64 (lo (0):Nat),.string (hi (0))],.bool false]) w):=by
 have e1:lo 0=0:=rfl
 have e2:hi 0=⟨#[]⟩:=bK (by unfold aa;omega)
 have HB:=aad (λW=>kB 0 (by rw[gf];omega) W)
 rw[gf] at HB
 rw[e1,e2] at *
 clear e1 e2
 generalize lo a=la at *
 generalize hi a=sa at *
 go_enter Tryz.func109,Tryz.ntmps109
 go_wp2_with fail
 generalize hW:(((w.alloc (.cells #[.int .u64 la,.string sa] 36)).alloc (.cells #[.int .u64 0,.string ⟨#[]⟩] 36)).alloc (.cells #[.int .u64 0,.string ⟨#[]⟩] 36)).alloc (.cells #[.int .u64 0,.string ⟨#[]⟩] 36)=W
 obtain⟨_,_,hr,hs,hx⟩:=r8 w W _ _ _ _ hW
 clear hW
 refine(HB.out _).mono ?_
 rintro e w3 ⟨rfl,dM⟩
 have bx:=hr.ext dM
 have r7:=hs.ext dM
 have r0:w3.cell? ⟨w.heap.size+1+1,0,none⟩=some (.int .u64 0):=bx.cell 0
 have r1:w3.cell? ⟨w.heap.size+1+1,1,none⟩=some (.string ⟨#[]⟩):=bx.cell 1
 have f0:w3.frozen? ⟨w.heap.size+1+1,0,none⟩=false:=bx.frozen 0
 have f1:w3.frozen? ⟨w.heap.size+1+1,1,none⟩=false:=bx.frozen 1
 have s0:w3.cell? ⟨w.heap.size+1+1+1,0,none⟩=some (.int .u64 0):=r7.cell 0
 have s1:w3.cell? ⟨w.heap.size+1+1+1,1,none⟩=some (.string ⟨#[]⟩):=r7.cell 1
 have g0:w3.frozen? ⟨w.heap.size+1+1+1,0,none⟩=false:=r7.frozen 0
 have g1:w3.frozen? ⟨w.heap.size+1+1+1,1,none⟩=false:=r7.frozen 1
 have HX:=aad (hx.trans dM)
 clear hr hs hx dM
 go_wp2
 refine mT (w.heap.size+1+1) (w.heap.size+1+1+1) _ _ _ _ _ rfl rfl rfl rfl ((((bx.set 0 _).set 1 _).cN (by simp) _).cN (by simp) _) ((((r7.cN (by simp) _).cN (by simp) _).set 0 _).set 1 _) rfl ⟨rfl,?_⟩
 exact(((Below.setCell HX.out (p:=⟨w.heap.size+1+1,0,none⟩) (by show _<=_;simp;omega) _).setCell (p:=⟨w.heap.size+1+1,1,none⟩) (by show _<=_;simp;omega) _).setCell (p:=⟨w.heap.size+1+1+1,0,none⟩) (by show _<=_;simp;omega) _).setCell (p:=⟨w.heap.size+1+1+1,1,none⟩) (by show _<=_;simp;omega) _
theorem Jb (a b:Nat) (ha:a<aa) (hb:b<aa) (h0:b≠0) (w:World) :
  Calls Tryz.prog 109 #[.agg #[.int .u64 (lo (a):Nat),.string (hi (a))],.agg #[.int .u64 (lo (b):Nat),.string (hi (b))]] w (cg (.tuple #[.agg #[.int .u64 (lo (a/b):Nat),.string (hi (a/b))],.agg #[.int .u64 (lo (a%b):Nat),.string (hi (a%b))],.bool true]) w):=by
 have hq:a/b<aa:=yl (AE _ _) ha
 have hm:a%b<aa:=Gc (pv _ (by omega)) hb
 have HB:=aad (λW=>Dv b hb W)
 rw[bK ha,bK hb,cB ha,cB hb,bK hq,bK hm,cB hq,cB hm] at *
 have O9:(((bl b:Nat):Int) == 0)=false:=pN.2 (by have:=ix h0;omega)
 have hdq:(((a/b:Nat):Int))=(a:Int)/b:=Au a b
 have hdm:(((a%b:Nat):Int))=(a:Int)%b:=CR a b
 rw[hdq,hdm]
 have hbi:((b:Int) == 0)=false:=pN.2 (by omega)
 have hai:(0:Int)<=a:=by omega
 have Zi:(0:Int)<b:=by omega
 have hau:(a:Int)<=18446744073709551615:=by unfold aa at ha;omega
 have ma:(b:Int)<=18446744073709551615:=by unfold aa at hb;omega
 clear ha hb hq hm h0 hdq hdm
 generalize (a:Int)=x at *
 generalize (b:Int)=y at *
 generalize (bl b:Nat)=l at *
 go_enter Tryz.func109,Tryz.ntmps109
 go_wp2_with fail
 generalize hW:(((w.alloc (.cells #[.int .u64 x,.string ⟨#[]⟩] 36)).alloc (.cells #[.int .u64 y,.string ⟨#[]⟩] 36)).alloc (.cells #[.int .u64 0,.string ⟨#[]⟩] 36)).alloc (.cells #[.int .u64 0,.string ⟨#[]⟩] 36)=W
 obtain⟨hp,hq,hr,hs,hx⟩:=r8 w W _ _ _ _ hW
 clear hW
 refine(HB.out _).mono ?_
 rintro e w3 ⟨rfl,dM⟩
 have hp3:=hp.ext dM
 have hq3:=hq.ext dM
 have bx:=hr.ext dM
 have r7:=hs.ext dM
 have p0:w3.cell? ⟨w.heap.size,0,none⟩=some (.int .u64 x):=hp3.cell 0
 have p1:w3.cell? ⟨w.heap.size,1,none⟩=some (.string ⟨#[]⟩):=hp3.cell 1
 have q0:w3.cell? ⟨w.heap.size+1,0,none⟩=some (.int .u64 y):=hq3.cell 0
 have q1:w3.cell? ⟨w.heap.size+1,1,none⟩=some (.string ⟨#[]⟩):=hq3.cell 1
 have r0:w3.cell? ⟨w.heap.size+1+1,0,none⟩=some (.int .u64 0):=bx.cell 0
 have r1:w3.cell? ⟨w.heap.size+1+1,1,none⟩=some (.string ⟨#[]⟩):=bx.cell 1
 have f0:w3.frozen? ⟨w.heap.size+1+1,0,none⟩=false:=bx.frozen 0
 have f1:w3.frozen? ⟨w.heap.size+1+1,1,none⟩=false:=bx.frozen 1
 have s0:w3.cell? ⟨w.heap.size+1+1+1,0,none⟩=some (.int .u64 0):=r7.cell 0
 have s1:w3.cell? ⟨w.heap.size+1+1+1,1,none⟩=some (.string ⟨#[]⟩):=r7.cell 1
 have g0:w3.frozen? ⟨w.heap.size+1+1+1,0,none⟩=false:=r7.frozen 0
 have g1:w3.frozen? ⟨w.heap.size+1+1+1,1,none⟩=false:=r7.frozen 1
 have HX:=aad (hx.trans dM)
 have HR:=aad bx
 have HS:=aad r7
 clear hr hs hx dM hp hq hp3 hq3 bx r7
 go_wp2_with fail
 go_region
 go_wp2
 refine mT (w.heap.size+1+1) (w.heap.size+1+1+1) _ _ _ _ _ rfl rfl rfl rfl ((((HR.out.set 0 _).set 1 _).cN (by simp) _).cN (by simp) _).drew ((((HS.out.cN (by simp) _).cN (by simp) _).set 0 _).set 1 _).drew rfl ⟨rfl,?_⟩
 exact((((Below.setCell HX.out (p:=⟨w.heap.size+1+1,0,none⟩) (by show _<=_;simp;omega) _).setCell (p:=⟨w.heap.size+1+1,1,none⟩) (by show _<=_;simp;omega) _).setCell (p:=⟨w.heap.size+1+1+1,0,none⟩) (by show _<=_;simp;omega) _).setCell (p:=⟨w.heap.size+1+1+1,1,none⟩) (by show _<=_;simp;omega) _).drew
theorem Bz (n:Nat) (hn:bl n<=549755813888) (v:Value) (w:World) (hR:bJ n v w) :
  Calls Tryz.prog 97 #[v] w (cg (.agg #[.int .u64 (lo (n):Nat),.string (hi (n))]) w):=by
 have HB:Hid (∀W,bJ n v W->Calls Tryz.prog 142 #[v] W (cA (jQ (gR n)) W)):=aad (λW h=>(yP n hn v W h).mono λ_ _ ⟨u,h1,h2,h3⟩=>⟨u,h1,jQ.Ug (by rw[b9];unfold nb;omega) h2,h3⟩)
 have HF:Hid (∀W u,jQ (gR n) u W->Calls Tryz.prog 141 #[u] W (cg (.agg #[.int .u64 (lo (n):Nat),.string (hi (n))]) W)):=aad (λW u h=>by have h:=oX (gR n) u W (by rw[b9];unfold nb;omega) h;rw[wX] at h;exact h)
 have HR0:=aad hR
 clear hR hn
 generalize lo n=la at *
 generalize hi n=sa at *
 go_enter Tryz.func97,Tryz.ntmps97
 go_wp2_with fail
 have hr:=ar.new w 36 [.int .u64 0,.string ⟨#[]⟩]
 have hx:Ext w (w.alloc (.cells #[.int .u64 0,.string ⟨#[]⟩] 36)):=(Ext.refl w).alloc _
 have HR:=aad hr
 have HX:=aad hx
 clear hr hx
 refine(HB.out _ (HR0.out.ext HX.out)).mono ?_
 rintro e w1 ⟨v1,rfl,fj,bU⟩
 have I0:=aad fj
 have im:=aad bU
 clear fj bU
 go_wp2_with fail
 refine(HF.out _ _ I0.out).mono ?_
 rintro e w3 ⟨rfl,eR⟩
 have he:Ext w w3:=(HX.out.trans im.out).trans eR
 have bx:=(HR.out.ext im.out).ext eR
 have r0:w3.cell? ⟨w.heap.size,0,none⟩=some (.int .u64 0):=bx.cell 0
 have r1:w3.cell? ⟨w.heap.size,1,none⟩=some (.string ⟨#[]⟩):=bx.cell 1
 have f0:w3.frozen? ⟨w.heap.size,0,none⟩=false:=bx.frozen 0
 have f1:w3.frozen? ⟨w.heap.size,1,none⟩=false:=bx.frozen 1
 go_wp2
 refine fY w.heap.size _ _ rfl rfl ((bx.set 0 _).set 1 _) rfl ⟨rfl,?_⟩
 exact(Below.setCell he (p:=⟨w.heap.size,0,none⟩) (by show _<=_;simp) _).setCell (p:=⟨w.heap.size,1,none⟩) (by show _<=_;simp) _
theorem uo (n:Nat) (hn:bl n<=549755813888) (w:World) :
  Calls Tryz.prog 153 #[.agg #[.int .u64 (lo (n):Nat),.string (hi (n))]] w λe w'=>∃v L g,e = .returned v/\L.length<=8589934593/\aC aa L/\val aa L=n/\w.heap.size<=g/\OW g L v w'/\Ext w w':=by
 have Zj:=aad (λW=>xn n hn W)
 have uN:(gR n).length<=68719476737:=by rw[b9];unfold nb;omega
 have HBN:=aad (wX n)
 have BA:=aad (show pY (gR n)=val 256 (rb (gR n)) from rfl)
 clear hn
 generalize gR n=l at *
 obtain⟨M,qO⟩:∃M,(l.length+7)/8=M:=⟨_,rfl⟩
 have hq:((l.length:Nat)+7:Int)/8=(M:Nat):=by omega
 have hM:M<=8589934593:=by omega
 have HM:=aad qO
 have UN:=aad hM
 clear qO
 generalize jh:lo n=la at *
 generalize qM:hi n=sa at *
 clear jh qM
 go_enter Tryz.func153,Tryz.ntmps153
 go_wp2_with fail
 refine(Zj.out _).mono ?_
 rintro e w1 ⟨v1,rfl,⟨g',fc,rfl,bn⟩,bU⟩
 have im:Hid (Ext w w1):=aad (((Ext.refl w).alloc _).trans bU)
 have yL:=aad bn
 clear bU bn fc
 go_wp2_with (at_make;refine cb _ rfl (.tmp 11) (.tmp 11) 166 23 rfl (.int .u64 0) 8 Tryz.underlying166 j5 rfl .i64 .i64 _ _ M rfl rfl ?c1 ?c1' ?c2 ?c3 ?_)
 case c1=>omega
 case c1'=>omega
 case c2=>omega
 case c3=>omega
 intro w2 fP jO cF
 rw[qm] at cF
 have mo:Hid (Ext w w2):=aad (im.out.trans fP)
 have aU:=yL.out.lt
 have pS:=aad (yL.out.ext fP)
 have HBG:=aad cF
 have UL:Hid (w.heap.size<=w1.heap.size):=aad im.out.size
 clear fP cF jO hq hM
 generalize w1.heap.size=g at *
 have ay:g'≠g:=by omega
 go_wp2
 go_loopw [15] (λi wr=>∃(k:Nat) (L:List Nat),k<=l.length/\i = .int .i64 k/\Hid (lI (rb l) k L)/\Hid (ar wr g 23 (U L))/\Hid (bS g w2 wr)) (λi _=>l.length-(intOf i).toNat)
 case atStart=>exact⟨0,_,ia _,rfl,aad (by have h:=lI.start (rb l);rw[cd,HM.out] at h;exact h),HBG,aad (bS.refl _ _)⟩
 case round=>
  obtain⟨k,L,hk,rfl,hL,aZ,bg⟩:=hrel
  by_cases dq:k<l.length
  ·have ez:wr.cell? ⟨g',l.length-1-k,none⟩=some (.int .u8 ((rb l).getD k 0:Nat)):=by
    rw[zE l k dq,(bg.out.kO pS.out ay).cell];simp only[Lib.byteCells,vu];rw[bF (by omega)];rfl
   have hlen:=hL.out.len
   rw[cd,HM.out] at hlen
   have hk8:k/8<M:=by have:=HM.out;omega
   have cU:wr.cell? ⟨g,k/8,none⟩=some (.int .u64 (L.getD (k/8) 0:Nat)):=by rw[aZ.out.cell,bQ _ _ (by omega)]
   have hf1:wr.frozen? ⟨g,k/8,none⟩=false:=aZ.out.frozen _
   have bw:(rb l).getD k 0<256:=(kn l).getD (by omega) k
   have hw:=hL.out.word (kn l)
   obtain⟨_,hN⟩:=hL.out.step (by rw[cd];exact dq) (kn l)
   have HN:=aad hN
   have HV:=aad (aaE (p:=8*(k%8)) bw (by omega) hw)
   clear hlen hN hw
   generalize (rb l).getD k 0=x at *
   generalize L.getD (k/8) 0=o at *
   go_wp2
   go_region
   rw[HV.out]
   go_wp2
   go_roundw
   case rel=>
    refine⟨k+1,_,by omega,by go_num,HN,?_,aad ((bg.out.set (k/8) _).trans (bS.aO (Ext.refl _).drew))⟩
    have h:=aZ.out.set (k/8) (.int .u64 (o+2^(8*(k%8))*x:Nat))
    rw[avy] at h
    exact aad h
   case measure=>simp[intOf];omega
  ·obtain rfl:k=l.length:=by omega
   go_wp2
   go_ret
   have hlen:=hL.out.len
   rw[cd,HM.out] at hlen
   have n5:=hL.out
   rw[<-cd] at n5
   refine⟨_,L,g,rfl,by have:=UN.out;omega,hL.out.bP,by rw[n5.fin,<-BA.out,HBN.out],UL.out,?_,bg.out.ext mo.out UL.out⟩
   have h:=OW.iA aZ.out
   rw[hlen] at h
   exact h
theorem M4:∀(n x k:Nat) (h:k<(Lib.leBytes n x).length),(Lib.leBytes n x)[k]=UInt8.ofNat (x/256^k)
 | 0,_,_,h=>by simp[Lib.leBytes] at h
 | n+1,x,0,_=>by simp only[Lib.leBytes,Gm,C8,Nat.div_one];apply UInt8.toNat_inj.1;simp[Nat.toUInt8,UInt8.toNat_ofNat']
 | n+1,x,k+1,h=>by simp only[Lib.leBytes,Cd];rw[M4 n (x/256) k (by simpa [Lib.leBytes] using h),jV,pM,eM]
theorem zL:∀(xs:List Nat) (k:Nat) (h:k<(xs.flatMap il).length),(xs.flatMap il)[k]=UInt8.ofNat (xs.getD (k/8) 0/256^(k%8))
 | [],_,h=>by simp at h
 | x::xs,k,h=>by
  simp only[De];by_cases hk:k<8
  ·rw[Hg (by rw[dQ];exact hk)];have h0:k/8=0:=by omega
   rw[h0,List.getD_cons_zero,nK hk];exact M4 8 x k (by rw[Lib.leBytes_length];exact hk)
  ·have hl:=dR (x::xs);rw[tT] at hl;rw[List.getElem_append_right (by rw[dQ];omega)];simp only[dQ];rw[zL xs (k-8) (by rw[dR];omega)];have e1:k/8=(k-8)/8+1:=by omega
   have e2:(k-8)%8=k%8:=by omega
   rw[e1,e2,yT]
theorem Zk (xs:List Nat) (k:Nat) (h:k<8*xs.length):(wb xs)[8*xs.length-1-k]'(by rw[fB];omega)=UInt8.ofNat (xs.getD (k/8) 0/256^(k%8)):=by
 unfold wb;rw[GL];have e:(xs.flatMap il).length-1-(8*xs.length-1-k)=k:=by rw[dR];omega
 simp only[e];exact zL xs k (by rw[dR];exact h)
theorem Pb (xs:List Nat) (k:Nat) (h:k<8*xs.length) (z:Int) (hz:z=((xs.getD (k/8) 0/256^(k%8)%256:Nat):Int)) :
  (Lib.byteCells (dH (wb xs) k)).set (8*xs.length-1-k) (.int .u8 z)=Lib.byteCells (dH (wb xs) (k+1)):=by
 have h':=tW (wb xs) k (by rw[fB];exact h)
 rw[<-h',aVK]
 have e:(wb xs)[(wb xs).length-1-k]'(by rw[fB];omega)=UInt8.ofNat (xs.getD (k/8) 0/256^(k%8)):=by rw[<-Zk xs k h];congr 1;rw[fB]
 rw[e,fB,hz]
 congr 2
theorem BC (xs:List Nat) (k:Nat) (h:k<8*xs.length):(Lib.byteCells (dH (wb xs) k))[8*xs.length-1-k]? = some (.int .u8 0):=by unfold Lib.byteCells dH;rw[CW,iR (by rw[uY,tO,fB];omega),vu,yh,fB,fi (by omega)];rfl
theorem BD (g0:Nat) (xs:List Nat) (v:Value) (w:World) (h:OW g0 xs v w) (hd:aC aa xs) (hl:xs.length<=8589934592) :
  Calls Tryz.prog 158 #[v] w (cg (.agg #[.int .u64 (lo (val aa xs):Nat),.string (hi (val aa xs))]) w):=by
 have It:=h.lt
 obtain⟨off,c,rfl,_,aK⟩:=h.open
 have HC:=aad aK
 have HF:Hid (∀W v',jQ (wb xs) v' W->Calls Tryz.prog 141 #[v'] W (cg (.agg #[.int .u64 (lo (val aa xs):Nat),.string (hi (val aa xs))]) W)):=aad λW v' hs=>by have h:=oX (wb xs) v' W (by rw[fB];omega) hs;rw[Y1 hd] at h;exact h
 have HW:=aad (fB xs)
 obtain⟨M,qO⟩:∃M,8*xs.length=M:=⟨_,rfl⟩
 have hq:8*((xs.length:Nat):Int)=(M:Nat):=by omega
 have HM:=aad qO
 have um:Hid (∀k,k<M->∀z:Int,z=((xs.getD (k/8) 0/256^(k%8)%256:Nat):Int)->(Lib.byteCells (dH (wb xs) k)).set (M-1-k) (.int .u8 z)=Lib.byteCells (dH (wb xs) (k+1))):=aad λk hk z hz=>by subst qO;exact Pb xs k hk z hz
 have aew:Hid (∀k,k<M->(Lib.byteCells (dH (wb xs) k))[M-1-k]? = some (.int .u8 0)):=aad λk hk=>by subst qO;exact BC xs k hk
 have hM:M<=68719476736:=by omega
 clear h hd aK hl
 generalize val aa xs=n at *
 generalize lo n=la at *
 generalize hi n=sa at *
 go_enter Tryz.func158,Tryz.ntmps158
 go_wp2_with (at_make;refine cb _ rfl (.tmp 7) (.tmp 7) 192 5 rfl (.int .u8 0) 1 Tryz.underlying192 I9 rfl .i64 .i64 _ _ M rfl rfl ?c1 ?c1' ?c2 ?c3 ?_)
 case c1=>omega
 case c1'=>omega
 case c2=>omega
 case c3=>omega
 intro w1 bU eo bn
 try simp only[World.size_alloc] at eo bn
 have HR:=aad ((ar.new w 36 [.int .u64 0,.string ⟨#[]⟩]).ext bU)
 have HX:=aad (((Ext.refl w).alloc _).trans bU)
 have HB:Hid (ar w1 (w.heap.size+1) 5 (Lib.byteCells (dH (wb xs) 0))):=aad (by rw[aUt,kQ,HW.out,HM.out];exact bn)
 clear bU bn eo qO
 go_wp2
 go_loopw [11] (λi wr=>∃k:Nat,k<=M/\i = .int .i64 k/\Hid (ar wr (w.heap.size+1) 5 (Lib.byteCells (dH (wb xs) k)))/\Hid (bS (w.heap.size+1) w1 wr)) (λi _=>M-(intOf i).toNat)
 case atStart=>exact⟨0,ia _,rfl,HB,aad (bS.refl _ _)⟩
 case round=>
  obtain⟨k,hk,rfl,aZ,bg⟩:=hrel
  by_cases yM:k<M
  ·have rf:k/8<xs.length:=by have:=HM.out;omega
   have ez:wr.cell? ⟨g0,off+k/8,none⟩=some (.int .u64 (xs.getD (k/8) 0:Nat)):=(bg.out.ext HX.out (by omega)).ak (HC.out _ rf)
   have cD:wr.cell? ⟨w.heap.size+1,M-1-k,none⟩=some (.int .u8 0):=by rw[aZ.out.cell];exact aew.out k yM
   have hf:wr.frozen? ⟨w.heap.size+1,M-1-k,none⟩=false:=aZ.out.frozen _
   have HS:=aad (um.out k yM)
   generalize xs.getD (k/8) 0=x at *
   go_wp2
   go_roundw
   case rel=>
    refine⟨k+1,by omega,by go_num,aad ?_,aad (bg.out.set _ _)⟩
    have h:=aZ.out.set (M-1-k) (.int .u8 ((x:Int)/2^(8*(k%8))%256))
    rw[HS.out _ (aVM x (k%8)).symm] at h
    exact h
   case measure=>simp[intOf];omega
  ·obtain rfl:k=M:=by omega
   have Yy:jQ (wb xs) (.slice (some ⟨w.heap.size+1,0,none⟩) k k) wr:=by have hb:=aZ.out;have hl:=HW.out;rw[HM.out] at hl;rw[<-hl,qn] at hb;rw[<-hl];exact⟨_,_,rfl,bX _,⟨by rw[hl];omega,λh=>by cases h⟩,λ_=>⟨_,0,rfl,hb.lt,λi hi=>by rw[kJ,hb.cell];simp[Lib.byteCells,vu,bF hi]⟩⟩
   have HF2:=aad (HF.out wr _ Yy)
   clear Yy
   go_wp2_with fail
   refine(HF2.out).mono ?_
   rintro e w3 ⟨rfl,eR⟩
   have he:Ext w w3:=(bg.out.ext HX.out (by omega)).trans eR
   have bx:=(bg.out.kO HR.out (by omega)).ext eR
   have r0:w3.cell? ⟨w.heap.size,0,none⟩=some (.int .u64 0):=bx.cell 0
   have r1:w3.cell? ⟨w.heap.size,1,none⟩=some (.string ⟨#[]⟩):=bx.cell 1
   have f0:w3.frozen? ⟨w.heap.size,0,none⟩=false:=bx.frozen 0
   have f1:w3.frozen? ⟨w.heap.size,1,none⟩=false:=bx.frozen 1
   go_wp2
   refine fY w.heap.size _ _ rfl rfl ((bx.set 0 _).set 1 _) rfl ⟨rfl,?_⟩
   exact(Below.setCell he (p:=⟨w.heap.size,0,none⟩) (by show _<=_;simp) _).setCell (p:=⟨w.heap.size,1,none⟩) (by show _<=_;simp) _
theorem nE {n:Nat} (h:n<aa):(.agg #[.int .u64 (lo (n):Nat),.string (hi (n))]:Value) = .agg #[.int .u64 (n:Nat),.string ⟨#[]⟩]:=by rw[cB h,bK h]
theorem aex {j k a b:Nat} (ha:Sm j a) (hb:Sm k b) (W:World) (h:max j k<=549755813888:=by decide) :
  Calls Tryz.prog 106 #[.agg #[.int .u64 (lo (a):Nat),.string (hi (a))],.agg #[.int .u64 (lo (b):Nat),.string (hi (b))]] W (cg (.agg #[.int .u64 (lo (a+b):Nat),.string (hi (a+b))]) W):=Ux a b (by unfold Sm at ha;omega) (by unfold Sm at hb;omega) W
theorem aey {j k a b:Nat} (ha:Sm j a) (hb:Sm k b) (W:World) (h:max j k<=274877906944:=by decide) :
  Calls Tryz.prog 62 #[.agg #[.int .u64 (lo (a):Nat),.string (hi (a))],.agg #[.int .u64 (lo (b):Nat),.string (hi (b))]] W (cg (.agg #[.int .u64 (lo (a*b):Nat),.string (hi (a*b))]) W):=UB a b (by unfold Sm at ha;omega) (by unfold Sm at hb;omega) W
theorem aez {j k a b:Nat} (ha:Sm j a) (hb:Sm k b) (W:World) (h:max j k<=549755813888:=by decide) :
  Calls Tryz.prog 108 #[.agg #[.int .u64 (lo (a):Nat),.string (hi (a))],.agg #[.int .u64 (lo (b):Nat),.string (hi (b))]] W (cg (.int .i64 (bG a b)) W):=lf a b (by unfold Sm at ha;omega) (by unfold Sm at hb;omega) W
theorem aeA {j k a b:Nat} (ha:Sm j a) (hb:Sm k b) (e:b<=a) (W:World) (h:max j k<=549755813888:=by decide) :
  Calls Tryz.prog 107 #[.agg #[.int .u64 (lo (a):Nat),.string (hi (a))],.agg #[.int .u64 (lo (b):Nat),.string (hi (b))]] W (cg (.tuple #[.agg #[.int .u64 (lo (a-b):Nat),.string (hi (a-b))],.bool true]) W):=Zb a b (by unfold Sm at ha;omega) (by unfold Sm at hb;omega) e W
theorem UO {j k a b:Nat} (ha:Sm j a) (hb:Sm k b) (e:a<b) (W:World) (h:max j k<=549755813888:=by decide) :
  Calls Tryz.prog 107 #[.agg #[.int .u64 (lo (a):Nat),.string (hi (a))],.agg #[.int .u64 (lo (b):Nat),.string (hi (b))]] W (cg (.tuple #[.agg #[.int .u64 (lo (0):Nat),.string (hi (0))],.bool false]) W):=sub_lt a b (by unfold Sm at ha;omega) (by unfold Sm at hb;omega) e W
theorem acq {k a:Nat} (ha:Sm k a) (W:World) (h:k<=1099511627776:=by decide) :
  Calls Tryz.prog 105 #[.agg #[.int .u64 (lo (a):Nat),.string (hi (a))]] W (cg (.int .i64 (bl a:Nat)) W):=kB a (by unfold Sm at ha;omega) W
theorem EY (lo y:Nat) (hy:0<y) (hl:lo<aa) (w:World) :
  Calls Tryz.prog 174 #[.int .u64 0,.int .u64 lo,.int .u64 y] w λe w'=>e = .returned (.tuple #[.int .u64 (lo/y:Nat),.int .u64 (lo%y:Nat)])/\∃n,w'=w.drewN n:=by
 have h1:((y:Int) == 0)=false:=pN.2 (by omega)
 have h2:0<y:=hy
 have h3:(1:Int)<=(y:Int):=by omega
 have h4:(lo:Int)<=18446744073709551615:=by unfold aa at hl;omega
 go_enter Tryz.func174,Tryz.ntmps174
 go_wp2
 go_quiet (fail)
 go_wp2
 go_ret2
 refine⟨?_,nq,rfl⟩
 have e1:IntKind.u64.wrap ((lo:Int)/(y:Int))=((lo/y:Nat):Int):=by
  have h5:lo/y<=lo:=AE _ _;have:(lo:Int)/(y:Int)=((lo/y:Nat):Int):=by push_cast;rfl
  rw[this,wrapN,nK (by omega)]
 have e2:(lo:Int)%(y:Int)=((lo%y:Nat):Int):=by push_cast;rfl
 rw[e1,e2]
 rfl
theorem EZ (hi lo y s:Nat) (hh:0<hi) (hy:hi<y) (Pc:y<aa) (hl:lo<aa) (hs:s+bl y=64) (w:World) :
  Calls Tryz.prog 174 #[.int .u64 hi,.int .u64 lo,.int .u64 y] w λe w'=>e = .returned (.tuple #[.int .u64 ((hi*aa+lo)/y:Nat),.int .u64 ((hi*aa+lo)%y:Nat)])/\w'=w:=by
 have h1:((y:Int) == 0)=false:=pN.2 (by omega)
 have h2:((hi:Int) == 0)=false:=pN.2 (by omega)
 have hlz:∀W,Calls Tryz.prog 175 #[.int .u64 y] W λe w'=>e = .returned (.int .i64 s)/\W=w':=λW=>by have h:=Tryz.bits_LeadingZeros64 (y:Int) W (by omega) (by unfold aa at Pc;omega);rw[Hf,qk Pc] at h;refine h.mono ?_;rintro e w' ⟨rfl,rfl⟩;exact⟨by congr 2;omega,rfl⟩
 have Zl:=aad hlz
 have rT:s<64:=by have:=ix (n:=y) (by omega);omega
 have hhb:hi<aa:=by omega
 have b1:(hi:Int)<=18446744073709551615:=by unfold aa at hhb;omega
 have b2:(lo:Int)<=18446744073709551615:=by unfold aa at hl;omega
 have b3:(y:Int)<=18446744073709551615:=by unfold aa at Pc;omega
 obtain⟨Y,y1,y0,U,T,u1,u0,cD⟩:=abV hi lo y s hy hl hs
 obtain⟨ra,rb⟩:=IF cD (by omega)
 have RA:=aad ra
 have RB:=aad rb
 have e1:=cD.e1
 have e2:=cD.e2
 have e3:=cD.e3
 have e4:=cD.e4
 have e5:=cD.e5
 have e6:=cD.e6
 have e7:=cD.e7
 have i1:(2147483648:Int)<=(y1:Int):=by have:=cD.zA;omega
 have i2:(y1:Int)<4294967296:=by have:y1<4294967296:=cD.zB;omega
 have i3:(y0:Int)<4294967296:=by have:y0<4294967296:=cD.ui;omega
 have i4:(u1:Int)<4294967296:=by have:u1<4294967296:=cD.aaA;omega
 have i5:(u0:Int)<4294967296:=by have:u0<4294967296:=cD.aaB;omega
 have hp1:0<y1:=by omega
 have E8:Lp Y y1 y0 U u1:=⟨cD.yy,cD.zA,cD.zB,cD.ui,cD.u,cD.aaA⟩
 have Pd:=E8.lt
 have UQ:0<Y:=by have:=E8.ult;omega
 obtain⟨R1,Zm⟩:∃R1,R1=(U*bI+u1)%Y:=⟨_,rfl⟩
 have hRY:R1<Y:=by rw[Zm];exact pv _ UQ
 have UR:Lp Y y1 y0 R1 u0:=⟨cD.yy,cD.zA,cD.zB,cD.ui,hRY,cD.aaB⟩
 obtain⟨R0,Zn⟩:∃R0,R0=(R1*bI+u0)%Y:=⟨_,rfl⟩
 have hUb:(U:Int)<=18446744073709551615:=by have:=E8.ult;unfold aa at Pd;omega
 have hRb:(R1:Int)<=18446744073709551615:=by unfold aa at Pd;omega
 have US:(R0:Int)<=18446744073709551615:=by
  have:R0<Y:=by rw[Zn];exact pv _ UQ
  unfold aa at Pd;omega
 have EA:∀q:Nat,q=(U*bI+u1)/Y->IntKind.u64.wrap (IntKind.u64.wrap (IntKind.u64.wrap ((U:Int)*4294967296)+(u1:Int))-IntKind.u64.wrap ((q:Int)*(Y:Int)))=(R1:Int):=λq hq=>by rw[Zm];exact wR Pd UQ hq
 have Um:∀q:Nat,q=(R1*bI+u0)/Y->IntKind.u64.wrap (IntKind.u64.wrap (IntKind.u64.wrap ((R1:Int)*4294967296)+(u0:Int))-IntKind.u64.wrap ((q:Int)*(Y:Int)))=(R0:Int):=λq hq=>by rw[Zn];exact wR Pd UQ hq
 have E9:∀Q q:Nat,Q=(U*bI+u1)/Y->q=(R1*bI+u0)/Y->(Q:Int)*4294967296+(q:Int)=(((hi*aa+lo)/y:Nat):Int)/\(R0:Int)/2^s=(((hi*aa+lo)%y:Nat):Int):=λQ q hQ hq=>by
  rw[<-RA.out,<-RB.out,<-Zm,<-Zn,<-hQ,<-hq];refine⟨?_,?_⟩
  ·rw[Gi,xX];rfl
  ·rw[Au,GV];rfl
 have hQb:(U*bI+u1)/Y<bI:=zD E8.ult E8.YW
 have aaK:(R1*bI+u0)/Y<bI:=zD UR.ult UR.YW
 obtain⟨qq,rr,Pe⟩:=pk U y1 hp1
 obtain⟨qs,rs,pk2⟩:=pk R1 y1 hp1
 obtain⟨st1,st2,st3⟩:=E8.start Pe
 obtain⟨st4,st5,st6⟩:=UR.start pk2
 have hqq:qq<=4294967297:=st2
 have LP1:=aad E8
 have LP2:=aad UR
 have Fa:=aad pk2
 have ST:=aad (And.intro st4 (And.intro st5 st6))
 have SA:=aad (And.intro st1 (And.intro st2 st3))
 have Y5:=aad EA
 have Y6:=aad Um
 have aaL:=aad E9
 have HQB:=aad (And.intro hQb aaK)
 have HI:=aad (And.intro i1 (And.intro i2 (And.intro i3 (And.intro i4 (And.intro i5 (And.intro hRb US))))))
 have d1:=Pe.d1
 have d2:=Pe.d2
 have d3:=Pe.d3
 have d4:=Pe.d4
 clear hlz hs cD ra rb RA RB E8 UR Pe pk2 st1 st2 st3 st4 st5 st6 EA Um E9 Zm Zn hRY hQb aaK Pd UQ hhb i1 i2 i3 i4 i5 hRb US
 go_enter Tryz.func174,Tryz.ntmps174
 go_wp2_with (go_at_call 175;refine(Zl.out _).mono ?_;rintro e w' ⟨rfl,rfl⟩)
 go_loop [15,16] (λa b=>∃q r:Nat,a = .int .u64 q/\b = .int .u64 r/\Hid (r<4294967296/\q<=4294967297/\Dg bI y1 y0 U u1 q r)) (λa _=>(intOf a).toNat)
 case atStart=>exact⟨qq,rr,rfl,rfl,SA⟩
 case round=>
  clear hqq d1 d2 d3 d4 SA e1 e2 e3 e4 e5 e6 e7 b1 b2 b3 h1 h2 hp1 hUb
  obtain⟨q,r,rfl,rfl,hD⟩:=hrel
  obtain⟨i1,i2,i3,i4,i5,hRb,US⟩:=HI.out
  have n3:(r:Int)<4294967296:=by have:=hD.out.1;omega
  by_cases hc:q<4294967296/\q*y0<=bI*r+u1
  case' pos=>
   obtain⟨hQ,n1,n2,bn,cF⟩:=LP1.out.Ua hD.out.2.2 hc
   have hw:=Y5.out q hQ
   have HQ:=aad hQ
   have p1:=Fa.out.d1
   have p2:=Fa.out.d2
   have p3:=Fa.out.d3
   have p4:=Fa.out.d4
   have p5:(qs:Int)<=4294967297:=by have:=ST.out.2.1;omega
   clear hQ hc hD
   go_wp2_with fail
   clear n1 n2 n3 bn cF hw p1 p2 p3 p4 p5
   generalize q=Q at *
  case' neg=>
   obtain⟨uE,hN,hb⟩:=LP1.out.go hD.out.2.2 hc
   obtain⟨q,rfl⟩:∃k,q=k+1:=⟨q-1,by omega⟩
   rw[pK] at hN
   have xo:=hD.out.2.1
   have m1:((q+1:Nat):Int)=(q:Int)+1:=by omega
   rw[m1] at hb ⊢
   have HN:=aad hN
   have lj:=aad xo
   have m2:(q:Int)+1<=4294967297:=by omega
   clear hc hD hN xo uE m1
   by_cases nY:r+y1<4294967296
   case' pos=>
    have k1:decide ((4294967296:Int)<=(r:Int)+(y1:Int))=false:=nS (by omega)
    have uM:=aad nY
    clear nY
    rcases hb with bn | ⟨bn,n1,n2,cF⟩
    all_goals
     go_wp2_with fail
     go_round
     case rel=>exact⟨q,r+y1,by go_num,by go_num,aad ⟨uM.out,by have:=lj.out;omega,HN.out⟩⟩
     case measure=>simp[intOf]
   case' neg=>
    have k1:decide ((4294967296:Int)<=(r:Int)+(y1:Int))=true:=tC (by omega)
    have hQ:q=(U*bI+u1)/Y:=LP1.out.Ub HN.out (by have:=lj.out;omega) (by omega)
    have hw:=Y5.out q hQ
    have HQ:=aad hQ
    have p1:=Fa.out.d1
    have p2:=Fa.out.d2
    have p3:=Fa.out.d3
    have p4:=Fa.out.d4
    have p5:(qs:Int)<=4294967297:=by have:=ST.out.2.1;omega
    clear hQ nY
    rcases hb with bn | ⟨bn,n1,n2,cF⟩
    all_goals
     go_wp2_with fail
     clear n3 bn hw p1 p2 p3 p4 p5 k1 m2 HN lj
     generalize q=Q at *
  all_goals
   go_loop [16,18] (λb a=>∃q r:Nat,a = .int .u64 q/\b = .int .u64 r/\Hid (r<4294967296/\q<=4294967297/\Dg bI y1 y0 R1 u0 q r)) (λ_ a=>(intOf a).toNat)
   case atStart=>exact⟨qs,rs,rfl,rfl,ST⟩
   case round=>
    obtain⟨q,r,rfl,rfl,hD⟩:=hrel
    have n3:(r:Int)<4294967296:=by have:=hD.out.1;omega
    have hQb:(Q:Int)<4294967296:=by have h:=HQB.out.1;rw[<-HQ.out] at h;unfold bI at h;omega
    by_cases hc:q<4294967296/\q*y0<=bI*r+u0
    ·obtain⟨hq,n1,n2,bn,cF⟩:=LP2.out.Ua hD.out.2.2 hc
     have hw:=Y6.out q hq
     obtain⟨f1,f2⟩:=aaL.out Q q HQ.out hq
     have Zo:(q:Int)<4294967296:=by omega
     have F1:=aad f1
     have F2:=aad f2
     clear hq hc hD f1 f2
     go_wp2_with fail
     go_ret2
     refine⟨?_,rfl⟩
     rw[F1.out,F2.out]
     rfl
    ·obtain⟨uE,hN,hb⟩:=LP2.out.go hD.out.2.2 hc
     obtain⟨q,rfl⟩:∃k,q=k+1:=⟨q-1,by omega⟩
     rw[pK] at hN
     have xo:=hD.out.2.1
     have m1:((q+1:Nat):Int)=(q:Int)+1:=by omega
     rw[m1] at hb ⊢
     have HN:=aad hN
     have lj:=aad xo
     have m2:(q:Int)+1<=4294967297:=by omega
     clear hc hD hN xo uE m1
     by_cases nY:r+y1<4294967296
     ·have k1:decide ((4294967296:Int)<=(r:Int)+(y1:Int))=false:=nS (by omega)
      have uM:=aad nY
      clear nY
      rcases hb with bn | ⟨bn,n1,n2,cF⟩
      all_goals
       go_wp2_with fail
       go_round
       case rel=>exact⟨q,r+y1,by go_num,by go_num,aad ⟨uM.out,by have:=lj.out;omega,HN.out⟩⟩
       case measure=>simp[intOf]
     ·have k1:decide ((4294967296:Int)<=(r:Int)+(y1:Int))=true:=tC (by omega)
      have hq:q=(R1*bI+u0)/Y:=LP2.out.Ub HN.out (by have:=lj.out;omega) (by omega)
      have hw:=Y6.out q hq
      obtain⟨f1,f2⟩:=aaL.out Q q HQ.out hq
      have Zo:(q:Int)<4294967296:=by have h:=HQB.out.2;rw[<-hq] at h;unfold bI at h;omega
      have F1:=aad f1
      have F2:=aad f2
      clear hq nY f1 f2
      rcases hb with bn | ⟨bn,n1,n2,cF⟩
      all_goals
       go_wp2_with fail
       go_ret2
       refine⟨?_,rfl⟩
       rw[F1.out,F2.out]
       rfl
theorem xp (hi lo y:Nat) (hy:hi<y) (Pc:y<aa) (hl:lo<aa) (w:World) :
  Calls Tryz.prog 174 #[.int .u64 hi,.int .u64 lo,.int .u64 y] w λe w'=>e = .returned (.tuple #[.int .u64 ((hi*aa+lo)/y:Nat),.int .u64 ((hi*aa+lo)%y:Nat)])/\∃n,w'=w.drewN n:=by
 by_cases h0:hi=0
 ·subst h0
  have:=EY lo y hy hl w
  rw[xY,kJ]
  exact this
 ·have hb:bl y<=64:=fO Pc
  exact(EZ hi lo y (64-bl y) (by omega) hy Pc hl (by omega) w).mono λ_ _ h=>⟨h.1,0,h.2⟩
def BE (g n d:Nat) (xs:List Nat) (w:World) (e:Ending) (w':World):Prop:=∃L,L.length=xs.length/\aC aa L/\val aa L=val aa xs/d/\e = .returned (.tuple #[.slice (some ⟨g,0,none⟩) (af aa (val aa xs/d)).length n,.int .u64 (val aa xs%d:Nat)])/\ar w' g 23 (U L)/\bS g w w'
theorem BG (g:Nat) (xs:List Nat) (d:Nat) (w:World) (hb:ar w g 23 (U xs)) (hx:xs.length<=8589934593) (hd:aC aa xs) (ks:0<d) (hZ:d<aa) :
  Calls Tryz.prog 151 #[.slice (some ⟨g,0,none⟩) xs.length xs.length,.int .u64 d] w (BE g xs.length d xs w):=by
 have HB:=aad hb
 clear hb
 go_enter Tryz.func151,Tryz.ntmps151
 go_wp2
 go_loopw [6,7] (λa b wr=>∃(k r:Nat) (L:List Nat),k<=xs.length/\b = .int .i64 ((k:Int)-1)/\a = .int .u64 r/\Hid (gn xs d k r L)/\Hid (ar wr g 23 (U L))/\Hid (bS g w wr)) (λ_ b _=>(intOf b+1).toNat)
 case atStart=>exact⟨xs.length,0,xs,bX _,rfl,rfl,aad (gn.start hd ks),HB,aad (bS.refl _ _)⟩
 case round=>
  obtain⟨k,r,L,hk,rfl,rfl,hL,aZ,bg⟩:=hrel
  by_cases AG:k=0
  ·subst AG
   obtain⟨f1,f2⟩:=hL.out.fin
   have uN:=hL.out.len
   have nk:=hL.out.bP
   have ht:Calls Tryz.prog 160 #[.slice (some ⟨g,0,none⟩) xs.length xs.length] wr λe w'=>e = .returned (.slice (some ⟨g,0,none⟩) (af aa (val aa xs/d)).length xs.length)/\wr=w':=by have h:=aZL g 0 xs.length L wr (by omega) (by omega) nk (λi hi=>by rw[kJ,aZ.out.cell i,bQ _ _ hi]);rw[f1,uN] at h;exact h
   have HT:=aad ht
   have F1:=aad f1
   have F2:=aad f2
   have tp:=aad uN
   clear ht f1 f2 uN
   go_wp2_with (go_at_call 160;refine(HT.out).mono ?_;rintro e w' ⟨rfl,rfl⟩)
   go_ret2
   refine⟨L,tp.out,nk,F1.out,?_,aZ.out,bg.out⟩
   rw[<-F2.out]
   rfl
  ·obtain⟨k,rfl⟩:∃j,k=j+1:=⟨k-1,by omega⟩
   obtain⟨hq,hN⟩:=hL.out.step (by omega)
   have mj:=getD_take hL.out.low (yi k)
   have uN:=hL.out.len
   have hc:wr.cell? ⟨g,k,none⟩=some (.int .u64 (xs.getD k 0:Nat)):=by rw[aZ.out.cell k,bQ _ _ (by omega),mj]
   have hf:wr.frozen? ⟨g,k,none⟩=false:=aZ.out.frozen k
   have hrd:=hL.out.lt
   have bw:xs.getD k 0<aa:=hd.getD (by unfold aa;omega) k
   have hD:∀W,Calls Tryz.prog 174 #[.int .u64 r,.int .u64 (xs.getD k 0:Nat),.int .u64 d] W λe w'=>e = .returned (.tuple #[.int .u64 ((r*aa+xs.getD k 0)/d:Nat),.int .u64 ((r*aa+xs.getD k 0)%d:Nat)])/\∃n,w'=W.drewN n:=λW=>xp r (xs.getD k 0) d hrd hZ bw W
   have HD:=aad hD
   have HN:=aad hN
   clear mj uN hD hN hL hq
   generalize (r*aa+xs.getD k 0)/d=q at *
   generalize (r*aa+xs.getD k 0)%d=r' at *
   generalize xs.getD k 0=x at *
   rw[show((k+1:Nat):Int)-1=(k:Int) from by omega]
   go_wp2_with fail
   refine(HD.out _).mono ?_
   rintro e w2 ⟨rfl,n2,rfl⟩
   go_wp2
   go_roundw
   case rel=>
    refine⟨k,r',L.set k q,by omega,rfl,rfl,HN,?_,?_⟩
    ·rw[<-avy];exact aad (aZ.out.set k _)
    ·exact aad ((bg.out.set k _).trans (bS.aO ((Ext.refl _).drewN n2)))
   case measure=>simp[intOf]
def gQ (U u v1 v0:Nat):Nat:=min ((U*aa+u)/(v1*aa+v0)) (aa-1)
theorem Pg {B g q:Nat} (h1:g<B) (h4:g<=q) (h3:g=B-1\/q<g+1):g=min q (B-1):=by omega
theorem Jc {B q:Nat} (hB:0<B):min q (B-1)<B/\min q (B-1)<=q/\(min q (B-1)=B-1\/q<min q (B-1)+1):=by omega
theorem M5 {v1 v0:Nat} (hv:0<v1):0<v1*aa+v0:=by have:0<v1*aa:=At hv (by unfold aa;omega);exact dz this (F3 _ _)
theorem xr {U u v1 v0 g:Nat} (hv:0<v1) (h:Good U u v1 v0 g):g=gQ U u v1 v0:=by obtain⟨h1,h2,h3⟩:=h;have hp:=M5 (v0:=v0) hv;exact Pg h1 ((sC hp).2 h2) (h3.imp id (λh3=>(iZ hp).2 h3))
theorem UT {U u v1 v0:Nat} (hv:0<v1):Good U u v1 v0 (gQ U u v1 v0):=by have hp:=M5 (v0:=v0) hv;obtain⟨h1,h2,h3⟩:=Jc (B:=aa) (q:=(U*aa+u)/(v1*aa+v0)) (by unfold aa;omega);exact⟨h1,(sC hp).1 h2,h3.imp id (λh3=>(iZ hp).1 h3)⟩
theorem xt (u2 u1 u0 v1 v0:Nat) (h2:u2<=v1) (Bl:u1<aa) (Dn:u0<aa) (fj:v1<aa) (Ds:v0<aa) (hv:0<v1) (w:World) :
  Calls Tryz.prog 177 #[.int .u64 u2,.int .u64 u1,.int .u64 u0,.int .u64 v1,.int .u64 v0] w λe w'=>e = .returned (.int .u64 (gQ (u2*aa+u1) u0 v1 v0:Nat))/\∃n,w'=w.drewN n:=by
 have HM:Hid (∀g:Nat,g<aa->∀W,Calls Tryz.prog 114 #[.int .u64 g,.int .u64 v0] W λe w'=>e = .returned (.tuple #[.int .u64 (uD g v0:Nat),.int .u64 (fD g v0:Nat)])/\W=w'):=aad (λg hg W=>ng g v0 hg Ds W)
 have HA:Hid (∀(r:Nat) W,(callFunc 148 #[.int .u64 r,.int .u64 v1,.int .u64 0]).run Tryz.prog W = .ok (.value (.tuple #[.int .u64 (fu r v1 0:Nat),.int .u64 (jz r v1 0:Nat)])) W):=aad (λr W=>og r v1 W)
 have HU0:=aad Dn
 have I0:=aad fj
 have HV0:=aad Ds
 have HV:=aad hv
 clear hv
 by_cases he:u2=v1
 case' pos=>
  have cR:Gw (u2*aa+u1) u0 v1 v0 18446744073709551615 (fu u1 v1 0) (jz u1 v1 0):=by rw[he];exact Gw.same (by have:=nf u1 v1 0;omega) (lC _ _ _) (py Bl fj (by omega))
  have qc:=HA.out u1
  generalize fu u1 v1 0=r0 at *
  generalize jz u1 v1 0=o0 at *
  have yK:=aad cR
  have HX:Hid (∃n,w=w.drewN n):=aad ⟨0,rfl⟩
  clear cR Bl Dn fj Ds h2
  have hb:((u2:Int) == (v1:Int))=true:=by rw[he];simp
  generalize u2*aa+u1=U at *
  clear he
  go_enter Tryz.func177,Tryz.ntmps177
  go_wp2
  clear qc hb
 case' neg=>
  have aU:u2<v1:=by omega
  have HD:=aad (λW=>xp u2 u1 v1 aU fj Bl W)
  have cR:Gw (u2*aa+u1) u0 v1 v0 ((u2*aa+u1)/v1) ((u2*aa+u1)%v1) 0:=Gw.less aU Bl Dn fj
  have yK:=aad cR
  have hb:((u2:Int) == (v1:Int))=false:=pN.2 (by omega)
  clear cR Bl Dn fj Ds h2 aU he
  generalize (u2*aa+u1)/v1=g0 at *
  generalize (u2*aa+u1)%v1=r0 at *
  generalize u2*aa+u1=U at *
  go_enter Tryz.func177,Tryz.ntmps177
  go_wp2_with fail
  refine(HD.out _).mono ?_
  rintro e w1 ⟨rfl,n1,EA⟩
  have HX:Hid (∃n,w1=w.drewN n):=aad ⟨n1,EA⟩
  clear EA
  go_wp2
  clear hb HD
 all_goals
  go_loop [11,12,13] (λa b c=>∃g r o:Nat,a = .int .u64 g/\b = .int .u64 r/\c = .int .u64 o/\Hid (Gw U u0 v1 v0 g r o)) (λa _ _=>(intOf a).toNat)
  case atStart=>first | exact⟨18446744073709551615,r0,o0,rfl,rfl,rfl,yK⟩ | exact⟨g0,r0,0,rfl,rfl,rfl,yK⟩
  case round=>
   obtain⟨g,r,o,rfl,rfl,rfl,hG⟩:=hrel
   have ho:=hG.out.o1
   by_cases Ph:o=1
   ·subst Ph
    have jU:=aad (hG.out.over HV0.out)
    go_wp2
    go_ret
    exact⟨by rw[<-xr (HV.out) jU.out];rfl,HX.out⟩
   ·obtain rfl:o=0:=by omega
    have hm:=HM.out g hG.out.OZ
    have ht:=Ep (g:=g) (v0:=v0) (r:=r) (u:=u0) HU0.out
    generalize uD g v0=h at *
    generalize fD g v0=l at *
    have UN:=aad hm
    clear hm ho Ph
    by_cases jU:g*v0<=r*aa+u0
    ·have Pj:=aad (hG.out.done jU)
     rcases ht.2 jU with h1 | ⟨h1,h3⟩
     ·have i1:(h:Int)<r:=by omega
      clear ht jU h1
      go_wp2_with (go_at_call 114;refine(UN.out _).mono ?_;rintro e w' ⟨rfl,rfl⟩)
      go_ret
      exact⟨by rw[<-xr (HV.out) Pj.out];rfl,HX.out⟩
     ·subst h1
      have i1:(l:Int)<=u0:=by omega
      clear ht jU h3
      go_wp2_with (go_at_call 114;refine(UN.out _).mono ?_;rintro e w' ⟨rfl,rfl⟩)
      go_ret
      exact⟨by rw[<-xr (HV.out) Pj.out];rfl,HX.out⟩
    ·have aeK:¬(h<r\/(h=r/\l<=u0)):=λx=>jU (ht.1 x)
     obtain⟨ki,hN⟩:=hG.out.next (s:=fu r v1 0) (c:=jz r v1 0) (by omega) (by have:=nf r v1 0;omega) (lC _ _ _) (py hG.out.rlt I0.out (by omega))
     have qc:=HA.out r
     have HN:=aad hN
     have AP:(1:Int)<=g:=by omega
     have Fb:(g:Int)<=18446744073709551615:=by have:=hG.out.OZ;unfold aa at this;omega
     generalize fu r v1 0=s at *
     generalize jz r v1 0=c at *
     have acA:(r:Int)<h\/((h:Int)=r/\(u0:Int)<l):=by omega
     clear aeK ht jU ki hN
     rcases acA with i1 | ⟨i0,i1⟩
     case' inl=>
      have j1:((h:Int) == (r:Int))=false:=pN.2 (by omega)
      have j2:decide ((h:Int)<(r:Int))=false:=nS (by omega)
     case' inr=>
      obtain rfl:h=r:=by omega
      have j2:decide ((l:Int)<=(u0:Int))=false:=nS (by omega)
      clear i0
     all_goals
      go_wp2_with (go_at_call 114;refine(UN.out _).mono ?_;rintro e w' ⟨rfl,rfl⟩)
      go_round
      case rel=>exact⟨g-1,s,c,by congr 1;omega,rfl,rfl,HN⟩
      case measure=>simp[intOf];omega
theorem r9 {ys:List Nat} {n:Nat} (hn:ys.length=n+1):aa^n*ys.getD n 0<=val aa ys:=by have h:=aD aa ys n;rw[jo (by omega)] at h;omega
theorem xu {ys zs:List Nat} {s n:Nat} (hn:ys.length=n+1) (uR:aC aa ys) (hl:zs.length=n+2) (Zp:aC aa zs) (hv:val aa zs=val aa ys*2^s) (hs:s+bl (ys.getD n 0)=64) (ht:ys.getD n 0≠0) :
  val aa (zs.take (n+1))=val aa ys*2^s/\(zs.take (n+1)).getD n 0≠0/\val aa ys*2^s<aa^(n+1)/\0<val aa ys*2^s:=by
 have hP:0<aa^n:=lN (by unfold aa;omega)
 have h0:=aD aa ys n
 rw[jo (by omega)] at h0
 have h1:=cl (uR.take n)
 rw[iY,pw (by omega)] at h1
 have h2:=gL (ys.getD n 0)
 have y6:=r9 hn
 generalize ys.getD n 0=t at *
 have h3:val aa ys<aa^n*2^bl t:=by have:aa^n*(t+1)<=aa^n*2^bl t:=eJ _ h2;rw[sA,uB] at this;omega
 have h4:val aa ys*2^s<aa^(n+1):=by have jO:0<2^s:=lN (by omega);have:=x5 h3 jO;rw[ky,<-po,show bl t+s=64 from by omega] at this;exact this
 have h5:aa^n<=val aa ys*2^s:=by have a1:aa^n*1<=aa^n*t:=eJ _ (by omega);have a2:val aa ys*1<=val aa ys*2^s:=eJ _ (lN (by omega));omega
 have h6:=aD aa zs (n+1)
 rw[jo (by omega),hv] at h6
 have h7:zs.getD (n+1) 0=0:=by
  rcases gA (zs.getD (n+1) 0) with h | h
  ·exact h
  ·have:aa^(n+1)*1<=aa^(n+1)*zs.getD (n+1) 0:=eJ _ h;omega
 rw[h7,Ai,qX] at h6
 refine⟨h6.symm,λh8=>?_,h4,by omega⟩
 have h9:=aD aa (zs.take (n+1)) n
 rw[Az,pw (by omega),Az,pw (by omega),h8,Ai,qX,<-h6] at h9
 have D4:=cl (Zp.take n)
 rw[iY,pw (by omega)] at D4
 omega
theorem zM {xs ys:List Nat} {s m n:Nat} (hn:ys.length=n+1) (hx:xs.length=m+n) (yG:aC aa xs) (ht:ys.getD n 0≠0):val aa xs*2^s<val aa ys*2^s*aa^m:=by
 have h1:=cl yG;rw[hx,po] at h1;have h2:=r9 hn;have h3:aa^n*1<=aa^n*ys.getD n 0:=eJ _ (by omega);have h4:aa^m*aa^n<=val aa ys*aa^m:=by rw[eM (aa^m)];exact cM _ (by omega)
 have h5:val aa xs<val aa ys*aa^m:=by omega
 have jO:0<2^s:=lN (by omega);have h6:=x5 h5 jO;rw[ky,eM (aa^m),<-ky] at h6;exact h6
theorem xw (X Y s:Nat):X*2^s/(Y*2^s)=X/Y:=Nat.mul_div_mul_right X Y (lN (by omega))
theorem BH (X Y s:Nat):X*2^s%(Y*2^s)/2^s=X%Y:=by rw[Nat.mul_mod_mul_right,Nat.mul_div_cancel _ (lN (by omega))]
theorem qe {L:List Nat} {n:Nat} (hn:n<=L.length) (h:val aa L<aa^n):val aa (L.take n)=val aa L:=by
 have h1:=dG aa L n hn;rcases gA (val aa (L.drop n)) with h2 | h2
 ·rw[h2,Ai,qX] at h1;exact h1.symm
 ·have:aa^n*1<=aa^n*val aa (L.drop n):=eJ _ h2;omega
theorem bA.pos {N V m n j g:Nat} {L L' Q:List Nat} (h:bA N V m n (j+1) L Q) (hV:V<aa^n) (hm:nv L V j n g 1 L'):1<=g:=by
 have he:=hm.vl;have Bn:val aa L'<aa^(j+n+1):=gZ hm.bP (λt ht=>by rw[hm.rest t ht];exact h.top hV ht);rcases gA g with h0 | h0
 ·subst h0;rw[xY,xY,qU,qX] at he;omega
 ·exact h0
end Go.Proofs.YtnciifikfkpanaaGreatDoor
