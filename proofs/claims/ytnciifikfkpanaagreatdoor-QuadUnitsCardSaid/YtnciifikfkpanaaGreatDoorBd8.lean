/- The base of the proof: contracts of functions, the engine that shows them, and mathematics. -/
import Derived.Test.YtnciifikfkpanaaGreatDoorBd7
set_option maxRecDepth 100000
set_option linter.unusedVariables false
set_option linter.unusedSimpArgs false
set_option maxHeartbeats 8000000
namespace Go.Proofs.YtnciifikfkpanaaGreatDoor
open Go.RowKit
theorem si (xs:List Nat):∀u∈bT xs,u.oneCell'=true:=by intro u hu;simp only[bT,G3] at hu;obtain⟨b,_,rfl⟩:=hu;rfl
theorem Fq (xs ys:List Nat):bT (xs++ys)=bT xs++bT ys:=by simp[bT]
theorem ar.jZ {w:World} {g:Nat} {xs:List Nat} {sp:List Value} (h:ar w g 184 (bT xs++sp)) (i:Nat) (hi:i<xs.length):w.cell? ⟨g,i,none⟩=some (.int .u32 (xs.getD i 0:Nat)):=by rw[h.cell i,iR (by rw[jA];exact hi),cY _ _ hi]
theorem ar.nO {w:World} {g:Nat} {xs:List Nat} {sp:List Value} (h:ar w g 184 (bT xs++sp)) (i y:Nat) (hi:i<xs.length):ar (w.setCell ⟨g,i,none⟩ (.int .u32 (y:Nat))) g 184 (bT (xs.set i y)++sp):=by have h':=h.set i (.int .u32 (y:Nat));rw[GK _ _ (by rw[jA];exact hi),fa] at h';exact h'
theorem dK.Vl {w:World} {g c:Nat} {xs:List Nat} {sp:List Value} (h:ar w g 184 (bT xs++sp)) (hc:xs.length<=c):dK xs (.slice (some ⟨g,0,none⟩) xs.length c) w:=⟨_,_,rfl,hc,λ_=>⟨g,0,rfl,h.lt,λi hi=>by rw[kJ];exact h.jZ i hi⟩⟩
theorem Vm {g v c:Nat} (hg:g<ae) (hv:v<ae) (hc:c<ae):IntKind.u64.wrap ((c:Int)+IntKind.u64.wrap ((g:Int)*(v:Int)))=((c+g*v:Nat):Int):=by
 have h1:g*v<=4294967295*4294967295:=x6 (by unfold ae at hg;omega) (by unfold ae at hv;omega);have e:(g:Int)*(v:Int)=((g*v:Nat):Int):=by push_cast;rfl
 rw[IntKind.wrap_u64,IntKind.wrap_u64,e];generalize g*v=p at *
 unfold ae at hc;omega
theorem mU {x y c:Nat} (hx:x<ae) (hy:y<ae) (hc:c<=1):IntKind.u64.wrap (IntKind.u64.wrap ((x:Int)-(y:Int))-(c:Int))=(((x+18446744073709551616-y-c)%18446744073709551616:Nat):Int):=by rw[IntKind.wrap_u64,IntKind.wrap_u64];unfold ae at hx hy;omega
theorem Pt {g:Nat} (h:1<=g):Value.int .u64 ((g:Int)-1)=Value.int .u64 ((g-1:Nat):Int):=by congr 1;omega
structure aaS (a b n s P:Nat):Prop where
 norm:eA.Norm b n s
 Vn:(af ae (a*2^s)).length=P
 pn:n+1<=P
 n1:1<=n
 s32:s<32
 afg:P<=4294967300
theorem Vo {a b:Nat} (ha:bl a<=137438953472) (cT:ae<=b) (hle:b<=a):∃n s P,aaS a b n s P/\(af ae b).length=n+1/\bl b+s=32*(n+1):=by
 have kf:b≠0:=by unfold ae at cT;omega
 have pX:2<=(af ae b).length:=by
  rcases aV 1 (af ae b).length with h | h
  ·exact h
  ·have:=(aJ aE b 1).1 h;rw[Kv] at this;omega
 obtain⟨n,hn⟩:∃n,(af ae b).length=n+1:=⟨(af ae b).length-1,by omega⟩
 have h1:bl b<=32*(n+1):=by have:=(aJ aE b (n+1)).1 (by omega);rw[fE] at this;exact fO this
 have h2:32*n<bl b:=by
  have h3:¬b<ae^n:=λh=>by have:=(aJ aE b n).2 h;omega
  rw[fE] at h3;exact SW (by omega)
 have hs:bl b+(32*(n+1)-bl b)=32*(n+1):=by omega
 have Vp:=eA.Vf kf hs;refine⟨n,32*(n+1)-bl b,_,⟨Vp,rfl,?_,by omega,by omega,?_⟩,hn,hs⟩
 ·refine j3 (Hu Vp.len.symm) ?_;have:b*2^(32*(n+1)-bl b)<=a*2^(32*(n+1)-bl b):=cM _ hle;rw[aJ aE];exact yl this ((aJ aE _ _).1 (bX _))
 ·refine cL _ _ ?_;have kv:a≠0:=by omega
  rw[eA.M9 kv];omega
theorem BT (a b n s P:Nat) (A:Option Addr) (c:Nat) (v1:Value) (w:World) (h1:bJ a v1 w) (h2:bJ b (.slice A (n+1) c) w) (ha:bl a<=137438953472) (hle:b<=a) (hI:aaS a b n s P) (hs:bl b+s=32*(n+1)) :
  Calls Tryz.prog 132 #[v1,.slice A (n+1) c] w (sf (a/b) (a%b) w):=by
 obtain⟨i0,hi,nm,pR,xa⟩:=info_parts jt
 have cX:bl b<=bl a:=eZ hle
 obtain⟨z,hz,hzz⟩:∃z,bG a b=z/\decide (z<0)=false:=⟨bG a b,rfl,by unfold bG;rw[dw (by omega)];split<;>rfl⟩
 have HC:Hid (∀W,Ext w W->Calls Tryz.prog 134 #[v1,.slice A (n+1) c] W (cg (.int .i64 z) W)):=aad (λW hx=>by have h:=lJ a b v1 _ W (h1.ext hx) (h2.ext hx) (by omega) (by omega);rw[hz] at h;exact h)
 have HB:Hid (∀W,Ext w W->Calls Tryz.prog 170 #[.slice A (n+1) c] W λe w'=>e = .returned (.int .i64 (bl b:Nat))/\w'=W):=aad (λW hx=>rZ b _ W (h2.ext hx) (by omega))
 have ah5:=hI.s32
 have HSY:Hid (∀W,Ext w W->Calls Tryz.prog 171 #[.slice A (n+1) c,.int .i64 s] W (cA (λv w'=>∃A9 c9,v = .slice A9 (n+1) c9/\dK (af ae (b*2^s)) v w') W)):=aad (λW hx=>(pe b s _ W (h2.ext hx) (by omega) (by omega)).mono λ_ _ ⟨v,he,⟨A9,c9,hv,hc,hh⟩,hxx⟩=>by refine⟨v,he,⟨A9,c9,?_,A9,c9,hv,hc,hh⟩,hxx⟩;rw[hv,hI.norm.len])
 have HSX:Hid (∀W,Ext w W->Calls Tryz.prog 171 #[v1,.int .i64 s] W (cA (λv w'=>∃g off c,v = .slice (some ⟨g,off,none⟩) P c/\∀i,i<P->w'.cell? ⟨g,off+i,none⟩=some (.int .u32 ((af ae (a*2^s)).getD i 0:Nat))) W)):=aad (λW hx=>(pe a s _ W (h1.ext hx) (by omega) (by omega)).mono λ_ _ ⟨v,he,⟨A9,c9,hv,hc,hh⟩,hxx⟩=>by
  have ay:af ae (a*2^s)≠[]:=λe=>by have:=hI.Vn;rw[e] at this;have:=hI.pn;simp at *;omega
  obtain⟨g,off,rfl,_,aK⟩:=hh ay;rw[hI.Vn] at hv aK;exact⟨v,he,⟨g,off,c9,hv,aK⟩,hxx⟩)
 have O9:(((n:Int)+1) == 1)=false:=pN.2 (by have:=hI.n1;omega)
 have hsi:32*((n:Int)+1)-((bl b:Nat):Int)=(s:Int):=by omega
 have Zs:=hI.n1
 have hpn:=hI.pn
 have hpm:=hI.afg
 have HI:=aad hI
 have HQ:=aad (eA.xw a b s)
 have UW:=aad (eA.BH a b s)
 have hli:((bl b:Nat):Int)<=137438953472:=by omega
 rw[<-HQ.out,<-UW.out]
 clear h1 h2 ha hle hI hs cX hz HQ UW
 go_enter Tryz.func132,Tryz.ntmps132
 go_wp2_with fail
 refine(HC.out _ (Ext.refl w)).mono ?_
 rintro e w1 ⟨rfl,bU⟩
 have im:=aad bU
 clear bU
 go_wp2_with fail
 refine(HB.out _ im.out).mono ?_
 rintro e w2 ⟨rfl,rfl⟩
 go_wp2_with fail
 refine(HSY.out _ im.out).mono ?_
 rintro e w2 ⟨v9,rfl,⟨A9,c9,rfl,hy⟩,fP⟩
 have HY:=aad hy
 have mo:=aad (im.out.trans fP)
 clear hy fP
 have lS:=HI.out.norm.len
 have hyn:af ae (b*2^s)≠[]:=λe=>by rw[e] at lS;simp at lS
 obtain⟨A9',c9',hv9,hc9,hh9⟩:=HY.out
 obtain⟨gy,uq,hA9,Yq,mP⟩:=hh9 hyn
 rw[lS] at hv9 mP
 injection hv9 with e1 e2 e3
 subst e1
 subst hA9
 have uS:=aad mP
 have BU:=aad (aL aE (b*2^s))
 have kt:=aad lS
 clear lS hyn hc9 hh9 Yq mP e2 e3 HY
 have Vq:=aad HI.out.Vn
 have HPV:=aad (eA.Vg (a*2^s))
 have HPD:=aad (eA.Vh (a*2^s))
 obtain⟨m,hm⟩:∃m,P+2=m+(n+1):=⟨P+1-n,by omega⟩
 have I7:=aad (eA.ZE (N:=a*2^s) (V:=b*2^s) (n:=n) (m:=m) (by rw[Vq.out];exact hm) HI.out.norm.ge)
 generalize mg:af ae (a*2^s)=xs at *
 clear mg
 generalize hys:af ae (b*2^s)=ys at *
 have Fs:Hid (val ae ys=b*2^s):=aad (by rw[<-hys];exact amE aE _)
 have nF:Hid (ys.getD n 0≠0/\ae<=2*ys.getD n 0/\b*2^s<ae^(n+1)/\0<b*2^s):=aad (by have hN:=HI.out.norm;have h1:=hN.top;have h2:=hN.half;rw[hys] at h1 h2;exact⟨h1,h2,hN.lt,hN.pos⟩)
 clear hys
 generalize a*2^s=N at *
 generalize b*2^s=V at *
 go_wp2_with fail
 refine(HSX.out _ (mo.out.alloc _)).mono ?_
 rintro e w3 ⟨v57,rfl,⟨ga,aaT,ca,rfl,Ie⟩,eR⟩
 have Is:ar w3 w2.heap.size 184 []:=(ar.new w2 _ []).ext eR
 have uU:=aad (((Ext.refl w2).alloc _).trans eR)
 have kU:w3.ownsRow w2.heap.size 184 1 (.slice (some ⟨w2.heap.size,0,none⟩) 0 0) 0 []:=⟨by simp,.inr ⟨w2.heap.size,0,#[],rfl,bX _,Is,bX _,by unfold maxLen;omega,rfl,rfl⟩⟩
 have HO:=aad kU
 have HL:Hid ((bT xs).length=P*1):=aad (by rw[jA,Vq.out];omega)
 have aaU:Hid (∀j u,(bT xs)[j]? = some u->w3.cell? ((⟨ga,aaT,none⟩:Addr).add j)=some u):=aad (λj u hu=>by
  have hj:j<xs.length:=by
   rcases aV j xs.length with h | h
   ·exact h
   ·rw[iQ (by rw[jA];exact h)] at hu;cases hu
  rw[Addr.add_lit,Ie j (by have:=Vq.out;omega),<-hu,cY _ _ hj])
 have Jj:Hid (0+P<=maxLen):=aad (by unfold maxLen;omega)
 have Ft:Hid ((0+P)*4<=140737488355328):=aad (by omega)
 have HBS:Hid (w2.heap.size<=w3.heap.size):=aad uU.out.size
 clear Is kU Ie eR
 go_wp2_with (at_builtin;refine wpList_append_own _ rfl (.tmp 54) (.tmp 57) 66 rfl w2.heap.size 184 i0 (.int .u32 0) 1 4 Tryz.underlying66 hi nm pR xa rfl (by decide) _ 0 [] rfl HO.out ⟨ga,aaT,none⟩ P ca (bT xs) rfl HL.out aaU.out (si xs) Jj.out Ft.out HBS.out ?_)
 intro v5 w5 Vt Nb _
 have HO5:Hid (w5.ownsRow w2.heap.size 184 1 v5 P (bT xs)):=aad (by simpa using Vt)
 have tv:Hid (Ext w2 w5):=aad (Below.grown uU.out Nb HBS.out (λk hk=>(HO.out.lt k hk).1))
 clear Vt Nb HO aaU Jj Ft
 have Jj:Hid (P+2<=maxLen):=aad (by unfold maxLen;omega)
 have Ft:Hid ((P+2)*4<=140737488355328):=aad (by omega)
 have Vu:Hid (∀j u,([.int .u32 0,.int .u32 0]:List Value)[j]? = some u->(w5.alloc (.cells #[.int .u32 0,.int .u32 0] 184)).cell? ((⟨w5.heap.size,0,none⟩:Addr).add j)=some u):=aad (λj u hu=>by rw[Addr.add_lit,kJ,(ar.new w5 184 [.int .u32 0,.int .u32 0]).cell j,hu])
 have Vv:Hid (w2.heap.size<=(w5.alloc (.cells #[.int .u32 0,.int .u32 0] 184)).heap.size):=aad (by have:=tv.out.size;simp;omega)
 go_wp2_with (at_builtin;refine wpList_append_own _ rfl (.tmp 58) (.tmp 59) 66 rfl w2.heap.size 184 i0 (.int .u32 0) 1 4 Tryz.underlying66 hi nm pR xa rfl (by decide) _ P (bT xs) rfl (HO5.out.alloc _) ⟨w5.heap.size,0,none⟩ 2 2 [.int .u32 0,.int .u32 0] rfl rfl Vu.out (si [0,0]) Jj.out Ft.out Vv.out ?_)
 intro v6 w6 Js Nc _
 have BO:Hid (Ext w2 w6):=aad (Below.grown (tv.out.alloc _) Nc Vv.out (λk hk=>(HO5.out.lt k hk).1))
 obtain⟨gx,Fu,sp,rfl,Dq,cj,Vw⟩:∃gx Fu sp,v6 = .slice (some ⟨gx,0,none⟩) (m+(n+1)) Fu/\w2.heap.size<=gx/\ar w6 gx 184 (bT (xs++[0,0])++sp)/\m+(n+1)<=Fu:=by
  have ZH:w6.ownsRow w2.heap.size 184 1 v6 (m+(n+1)) (bT (xs++[0,0])):=by rw[Fq];first | exact Js | (rw[<-hm];exact Js)
  obtain⟨_,h | ⟨g,cap,cur,hv,hg,hb,hle,_,br,uJ⟩⟩:=ZH
  ·have:=h.2;omega
  ·refine⟨g,cap,cur.toList.drop ((m+(n+1))*1),hv,hg,?_,hle⟩;unfold ar;rw[<-uJ,uX];simpa using hb
 have me:=aad Dq
 have pS:=aad cj
 have UJ:=aad Vw
 clear Js Nc HO5 Vu Jj Ft Vv tv uU HBS HL Dq cj Vw
 have cy1:w6.cell? ⟨gy,uq+n,none⟩=some (.int .u32 (ys.getD n 0:Nat)):=BO.out.ak (uS.out n (by omega))
 have cy0:w6.cell? ⟨gy,uq+(n-1),none⟩=some (.int .u32 (ys.getD (n-1) 0:Nat)):=BO.out.ak (uS.out (n-1) (by omega))
 have aaV:=BU.out.getD (by unfold ae;omega) n
 have Nd:=BU.out.getD (by unfold ae;omega) (n-1)
 have hni:(1:Int)<=n:=by omega
 have hpi:(P:Int)<=4294967300:=by omega
 have ah6:((ys.getD n 0:Nat):Int)<=4294967295:=by unfold ae at aaV;omega
 have ah7:((ys.getD (n-1) 0:Nat):Int)<=4294967295:=by unfold ae at Nd;omega
 generalize aaW:ys.getD n 0=y1 at *
 generalize aaX:ys.getD (n-1) 0=y0 at *
 have Vx:=aad aaW
 have afn:=aad aaX
 clear aaW aaX
 have q4:((n:Int)+1-2).toNat=n-1:=by omega
 have HM:=aad hm
 go_wp2_with (at_make;refine cb _ rfl (.tmp 78) (.tmp 78) 66 184 rfl (.int .u32 0) 4 Tryz.underlying66 jt rfl .i64 .i64 _ _ m rfl rfl ?c1 ?c1' ?c2 ?c3 ?_)
 case c1=>omega
 case c1'=>omega
 case c2=>omega
 case c3=>omega
 intro w7 tu hs7 BM
 rw[aZv] at BM
 have HX7:=aad (BO.out.trans tu)
 have aaY:=aad (pS.out.ext tu)
 have aaZ:=aad BM
 have fR:Hid (gx<w6.heap.size):=aad pS.out.lt
 have Zw:Hid (eA.bA N V m (n+1) m (xs++[0,0]) (List.replicate m 0)):=aad (by have h:=eA.bA.start (m:=m) (n:=n+1) (V:=V) (L:=xs++[0,0]) (by rw[c6,Vq.out];simp;omega) HPD.out (by rw[HPV.out];exact I7.out);rw[HPV.out] at h;exact h)
 have YA:m<=4294967302:=by omega
 have HT1:Hid (∀W L Q,eA.bA N V m (n+1) 0 L Q->ar W w6.heap.size 184 (bT Q)->Calls Tryz.prog 130 #[.slice (some ⟨w6.heap.size,0,none⟩) m m] W λe w'=>∃v',e = .returned v'/\bJ (N/V) v' W/\w'=W):=aad (λW L Q hD hb=>by have h:=dV (dK.iA hb) (by rw[hD.oR];omega) hD.Er;rw[hD.fin.1,hD.oR] at h;exact h)
 have HT2:Hid (∀W L Q,eA.bA N V m (n+1) 0 L Q->ar W gx 184 (bT L++sp)->Calls Tryz.prog 130 #[.slice (some ⟨gx,0,none⟩) (m+(n+1)) Fu] W λe w'=>∃v',e = .returned v'/\bJ (N%V) v' W/\w'=W):=aad (λW L Q hD hb=>by have h:=dV (dK.Vl hb (c:=Fu) (by rw[hD.mr];exact UJ.out)) (by rw[hD.mr];omega) hD.ik;rw[hD.fin.2,hD.mr] at h;exact h)
 have HT3:Hid (∀W u,bJ (N%V) u W->Calls Tryz.prog 171 #[u,.int .i64 (-(s:Int))] W (cA (bJ (N%V/2^s)) W)):=aad (λW u hu=>by
  have hb:bl (N%V)<=274877906944:=by have h1:N%V<ae^(n+1):=Gc (pv _ nF.out.2.2.2) nF.out.2.2.1;rw[fE] at h1;have:=fO h1;omega
  by_cases hs0:s=0
  ·subst hs0;have h:=pe (N%V) 0 u W hu hb (by omega);rw[C8,uB] at h;rw[C8,Nat.div_one];exact h
  ·exact Fl (N%V) s u W hu hb (by omega) (by omega))
 clear tu hs7 BM BO pS HPD HPV I7 Vq HC HB HSX HSY q4 cy1 cy0
 generalize w6.heap.size=gq at *
 go_wp2
 go_loopw [15] (λv wr=>∃(j:Nat) (L Q:List Nat),j<=m/\v = .int .i64 ((j:Int)-1)/\Hid (eA.bA N V m (n+1) j L Q)/\Hid (ar wr gx 184 (bT L++sp))/\Hid (ar wr gq 184 (bT Q))/\Hid (Ext w2 wr)) (λv _=>(intOf v+1).toNat)
 case atStart=>exact⟨m,_,_,bX _,by first | (congr 1;omega) | congr 1,Zw,aaY,aaZ,HX7⟩
 case round=>as_aux_lemma=>
  clear Zw aaY aaZ HX7
  obtain⟨j,L,Q,hj,rfl,hD,cj,hbq,hex⟩:=hrel
  by_cases qi:j=0
  ·subst qi
   go_wp2_with fail
   refine(HT1.out _ L Q hD.out hbq.out).mono ?_
   rintro e w8 ⟨u8,rfl,hu8,rfl⟩
   have HU8:=aad hu8
   clear hu8
   go_wp2_with fail
   refine(HT2.out _ L Q hD.out cj.out).mono ?_
   rintro e w8 ⟨u9,rfl,hu9,rfl⟩
   have HU9:=aad hu9
   clear hu9
   go_wp2_with fail
   refine(HT3.out _ _ HU9.out).mono ?_
   rintro e w9 ⟨u10,rfl,aa0,aa1⟩
   have afr:=aad aa0
   have M8:=aad aa1
   clear aa0 aa1
   go_wp2
   go_ret2
   exact⟨_,_,rfl,HU8.out.ext M8.out,afr.out,(mo.out.trans hex.out).trans M8.out⟩
  ·obtain⟨k,rfl⟩:∃k,j=k+1:=⟨j-1,by omega⟩
   rw[show((k+1:Nat):Int)-1=(k:Int) from by omega]
   have jb:k<m:=by omega
   have U0:eA.bA N (val ae ys) m (n+1) (k+1) L Q:=by rw[Fs.out];exact hD.out
   obtain⟨g1,g2⟩:=U0.IG kt.out (by omega) BU.out (by rw[pK,Vx.out];exact nF.out.1)
   rw[show k+(n+1)-1=k+n from by omega,show k+(n+1)-2=k+n-1 from by omega,show k+(n+1)=k+n+1 from by omega,pK,show n+1-2=n-1 from by omega,Vx.out,afn.out,Fs.out] at g2
   rw[show k+(n+1)=k+n+1 from by omega,pK,Vx.out] at g1
   have pd:=hD.out.mr
   have U1:=hD.out.oR
   have fJ:0<ae:=by unfold ae;omega
   have c2:=cj.out.jZ (k+n+1) (by omega)
   have c1:=cj.out.jZ (k+n) (by omega)
   have c0:=cj.out.jZ (k+n-1) (by omega)
   have d2:=hD.out.ik.getD fJ (k+n+1)
   have d1:=hD.out.ik.getD fJ (k+n)
   have d0:=hD.out.ik.getD fJ (k+n-1)
   have Pj:=aad g2
   have tp:=aad pd
   have lj:=aad U1
   clear g2 U0 pd U1
   generalize L.getD (k+n+1) 0=a2 at *
   generalize L.getD (k+n) 0=a1 at *
   generalize L.getD (k+n-1) 0=a0 at *
   have xC:=Jr d2 d1
   have hU:=eA.Vi g1 d1
   have hUb:a2*ae+a1<18446744073709551616:=by unfold ae at *;omega
   generalize a2*ae+a1=U at *
   have Vj:=aad xC
   have HU:=aad hU
   have aa2:0<y1:=tU nF.out.1
   have HGS:=aad (eA.Gr.start (U:=U) (u:=a0) (y0:=y0) aa2 aaV d0)
   have hdv:IntKind.u64.wrap ((U:Int)/(y1:Int))=((U/y1:Nat):Int):=by have h0:U/y1<=U:=AE _ _;rw[<-Au,IntKind.wrap_u64];revert h0;generalize U/y1=q0;intro h0;omega
   have hmd:(U:Int)%(y1:Int)=((U%y1:Nat):Int):=(CR U y1).symm
   have hUi:(U:Int)<=18446744073709551615:=by omega
   have It:U/y1<=18446744073709551615:=j3 (AE _ _) (by omega)
   generalize U/y1=gg0 at *
   generalize U%y1=rr0 at *
   have ah8:(gg0:Int)<=18446744073709551615:=by omega
   have HMD:=aad hmd
   clear hmd
   have ahK:(0:Int)<y1:=by omega
   have ah9:((y1:Int) == 0)=false:=pN.2 (by omega)
   have a2i:(a2:Int)<=4294967295:=by unfold ae at d2;omega
   have a1i:(a1:Int)<=4294967295:=by unfold ae at d1;omega
   have a0i:(a0:Int)<=4294967295:=by unfold ae at d0;omega
   have rf:(k:Int)<=4294967302:=by omega
   have q1:IntKind.i64.wrap ((k:Int)+((n:Int)+1))=(k:Int)+((n:Int)+1):=IntWalk.i64_in _ (by omega)
   have q2:IntKind.i64.wrap ((k:Int)+((n:Int)+1)-1)=(k:Int)+((n:Int)+1)-1:=IntWalk.i64_in _ (by omega)
   have r1:((k:Int)+((n:Int)+1)).toNat=k+n+1:=by omega
   have r2:((k:Int)+((n:Int)+1)-1).toNat=k+n:=by omega
   clear xC hU hUb g1 It
   go_wp2
   go_quiet (fail)
   rw[Vj.out]
   rename_i nq
   have pS:=aad (cj.out.ext ((Ext.refl wr).drewN nq))
   have uV:=aad (hbq.out.ext ((Ext.refl wr).drewN nq))
   have iX:=aad (hex.out.drewN nq)
   have c0':(wr.drewN nq).cell? ⟨gx,k+n-1,none⟩=some (.int .u32 a0):=c0
   clear cj hbq hex c2 c1 c0 q1 q2 r1 r2
   generalize wr.drewN nq=W6 at *
   go_wp2
   rw[HMD.out]
   clear hdv HMD
   go_loop [17,18] (λa b=>∃g r:Nat,a = .int .u64 g/\b = .int .u64 r/\Hid (eA.Gr U a0 y1 y0 g r)) (λa _=>(intOf a).toNat)
   case atStart=>exact⟨gg0,rr0,rfl,rfl,HGS⟩
   case round=>as_aux_lemma=>
    obtain⟨g,r,rfl,rfl,hG⟩:=hrel
    have yS:=hG.out.rlt
    have iU:g<=U:=by have h1:=hG.out.eq;have h2:g*1<=g*y1:=eJ _ aa2;omega
    have AP:(g:Int)<=18446744073709551615:=by omega
    have Ps:(r:Int)<=4294967295:=by unfold ae at yS;omega
    have Fv:=Jr yS d0
    have yH:r*ae+a0<18446744073709551616:=by unfold ae at *;omega
    have Fw:Hid (∃T1,r*ae+a0=T1):=aad ⟨_,rfl⟩
    have i3:((k:Int)+((n:Int)+1)-2).toNat=k+n-1:=by omega
    refine if hg:g<ae then ?qA else ?qC
    case' qA=>
     have hmul:IntKind.u64.wrap ((g:Int)*(y0:Int))=((g*y0:Nat):Int):=by
      have e:(g:Int)*(y0:Int)=((g*y0:Nat):Int):=by push_cast;rfl
      have h1:g*y0<=4294967295*4294967295:=x6 (by unfold ae at hg;omega) (by unfold ae at Nd;omega);rw[e,IntKind.wrap_u64];omega
     have ZI:decide ((4294967296:Int)<=(g:Int))=false:=nS (by unfold ae at hg;omega)
     have hrt:decide ((r:Int)<4294967296)=true:=tC (by omega)
     refine if ht:g*y0<=r*ae+a0 then ?qA1 else ?qB
     case' qA1=>
      have lp:=aad (hG.out.done hg ht)
      have hPT:decide ((r*ae+a0:Nat)<g*y0)=false:=nS (by omega)
      generalize g*y0=P1 at *
      generalize r*ae+a0=T1 at *
      have zQ:decide ((T1:Int)<(P1:Int))=false:=nS (by omega)
      have afw:=aad Fv
      clear hG hg ht iU Fw yS
      obtain⟨gg,hgg⟩:∃gg,gg=g:=⟨_,rfl⟩
      subst hgg
      go_wp2
      clear hmul ZI hrt hPT zQ Fv yH AP Ps afw
     case' qB=>
      have zQ:decide ((r*ae+a0:Nat)<g*y0)=true:=tC (by omega)
      have pg:ae<=g\/r*ae+a0<g*y0:=.inr (by omega)
      have Pu:=(hG.out.next pg).1
      have h1i:(1:Int)<=g:=by omega
      have H1G:=aad Pu
      refine if hov:r+y1<ae then ?qB1 else ?qB2
      case qB1=>
       have mc:=aad (hG.out.go pg hov)
       generalize g*y0=P1 at *
       generalize r*ae+a0=T1 at *
       have aa3:(T1:Int)<(P1:Int):=by have:=AB zQ;omega
       have FB:decide ((4294967296:Int)<=(r:Int)+(y1:Int))=false:=nS (by unfold ae at hov;omega)
       clear hG hg ht iU Fw yS pg hov Pu zQ
       go_wp2
       go_round
       case rel=>exact⟨g-1,r+y1,Pt H1G.out,by go_num,mc⟩
       case measure=>simp[intOf];omega
      case' qB2=>
       have lp:=aad (hG.out.over pg (by omega) HU.out Nd)
       generalize g*y0=P1 at *
       generalize r*ae+a0=T1 at *
       have aa3:(T1:Int)<(P1:Int):=by have:=AB zQ;omega
       have FB:(4294967296:Int)<=(r:Int)+(y1:Int):=by unfold ae at hov;omega
       clear hG hg ht iU Fw yS pg hov Pu zQ
       go_wp2
       rw[show((g:Int)-1)=((g-1:Nat):Int) from by omega]
       clear hmul ZI hrt aa3 Fv yH AP Ps FB h1i
       generalize g-1=gg at *
    case' qC=>
     have ZI:(4294967296:Int)<=(g:Int):=by unfold ae at hg;omega
     have pg:ae<=g\/r*ae+a0<g*y0:=.inl (by omega)
     have Pu:=(hG.out.next pg).1
     refine if hov:r+y1<ae then ?qC1 else ?qC2
     case qC1=>
      have mc:=aad (hG.out.go pg hov)
      have FB:decide ((4294967296:Int)<=(r:Int)+(y1:Int))=false:=nS (by unfold ae at hov;omega)
      clear hG hg iU Fw yS pg hov Pu Fv yH
      go_wp2
      go_round
      case rel=>exact⟨g-1,r+y1,by congr 1;omega,by go_num,mc⟩
      case measure=>simp[intOf];omega
     case' qC2=>
      have lp:=aad (hG.out.over pg (by omega) HU.out Nd)
      have FB:(4294967296:Int)<=(r:Int)+(y1:Int):=by unfold ae at hov;omega
      clear hG hg iU Fw yS pg hov Pu Fv yH
      go_wp2
      rw[show((g:Int)-1)=((g-1:Nat):Int) from by omega]
      clear ZI AP Ps FB
      generalize g-1=gg at *
    all_goals
     have uT:=Pj.out gg lp.out
     have lK:=lp.out.1
     have xx:=aad uT
     have pc:=aad lK
     have Fx:(gg:Int)<=4294967295:=by unfold ae at lK;omega
     clear uT lK lp c0' i3
     go_loopw [19,20,21] (λc b i wr=>∃(i' cc bb:Nat) (L':List Nat),i'<=n+1/\i = .int .i64 i'/\c = .int .u64 cc/\b = .int .u64 bb/\cc<ae/\bb<=1/\Hid (eA.cS L ys k gg i' cc bb L')/\Hid (ar wr gx 184 (bT L'++sp))/\Hid (ar wr gq 184 (bT Q))/\Hid (Ext w2 wr)) (λ_ _ i _=>n+1-(intOf i).toNat)
     case atStart=>exact⟨0,0,0,L,ia _,rfl,rfl,rfl,by unfold ae;omega,by omega,aad (eA.cS.start k gg hD.out.ik),pS,uV,iX⟩
     case round=>as_aux_lemma=>
      clear pS uV iX
      obtain⟨i,cc,bb,L',cw,rfl,rfl,rfl,cG,cX,hM,cj,hbq,hex⟩:=hrel
      have xy:=hM.out.len
      have pd:=tp.out
      by_cases hin:i<n+1
      ·have cx:=cj.out.jZ (k+i) (by omega)
       have fx:wr.frozen? ⟨gx,k+i,none⟩=false:=cj.out.frozen _
       have Fy:wr.cell? ⟨gy,uq+i,none⟩=some (.int .u32 (ys.getD i 0:Nat)):=hex.out.ak (uS.out i hin)
       have bw:=hM.out.bP.getD fJ (k+i)
       have de:=BU.out.getD fJ i
       have gS:=aad (λ(y:Nat)=>cj.out.nO (k+i) y (show k+i<L'.length by omega))
       have cR:=λ(u' b':Nat) (hu:u'<ae) (e:L'.getD (k+i) 0+ae*b'=(cc+gg*ys.getD i 0)%ae+bb+u')=>hM.out.step1 (by omega) hu e
       obtain⟨htb,Fz⟩:=eA.tz pc.out de cG
       have hmul:=Vm pc.out de cG
       generalize L'.getD (k+i) 0=x at *
       generalize ys.getD i 0=y at *
       generalize cc+gg*y=t at *
       have hand:bits .and .u64 (t:Int) 4294967295=((t%ae:Nat):Int):=mM t htb
       have eo:t%ae<ae:=pv _ fJ
       generalize t%ae=s1 at *
       obtain⟨e1,e2⟩:=ny (d:=(x+18446744073709551616-s1-bb)%18446744073709551616) bw eo cX rfl
       have ur:=mU bw eo cX
       have nk:(x+18446744073709551616-s1-bb)%18446744073709551616<18446744073709551616:=pv _ (by omega)
       generalize (x+18446744073709551616-s1-bb)%18446744073709551616=d at *
       have HN:=aad (cR _ _ (show d%4294967296<ae from pv _ (by omega)) e1)
       have E1:Hid (((t/ae:Nat):Int)=(t:Int)/4294967296):=aad (by unfold ae;omega)
       have O6:(t:Int)<=18446744073709551615:=by omega
       have pP:(d:Int)<=18446744073709551615:=by omega
       have mR:(x:Int)<=4294967295:=by unfold ae at bw;omega
       have wF:(y:Int)<=4294967295:=by unfold ae at de;omega
       have nA:(cc:Int)<=4294967295:=by unfold ae at cG;omega
       have xe:=aad e2
       have Vy:=aad Fz
       clear cR e1 e2 Fz hM xy pd cG cX bw de eo htb nk
       go_wp2
       go_roundw
       case rel=>refine⟨i+1,t/ae,d/9223372036854775808,L'.set (k+i) (d%4294967296),by omega,by go_num,by rw[E1.out],by congr 1,Vy.out,xe.out,HN,aad (gS.out (d%4294967296)),aad (hbq.out.cN (by have:=fR.out;simp;omega) _),aad (Below.setCell hex.out (p:=⟨gx,k+i,none⟩) me.out _)⟩
       case measure=>simp[intOf];omega
      ·obtain rfl:i=n+1:=by omega
       have cx:=cj.out.jZ (k+(n+1)) (by omega)
       have fx:wr.frozen? ⟨gx,k+(n+1),none⟩=false:=cj.out.frozen _
       have bw:=hM.out.bP.getD fJ (k+(n+1))
       have gS:=aad (λ(y:Nat)=>cj.out.nO (k+(n+1)) y (show k+(n+1)<L'.length by omega))
       have xz:eA.cS L ys k gg ys.length cc bb L':=by rw[kt.out];exact hM.out
       have cR:=λ(u' b':Nat) (hu:u'<ae) (e:L'.getD (k+ys.length) 0+ae*b'=cc+bb+u')=>xz.close (by rw[kt.out];omega) hu e
       rw[kt.out,Fs.out] at cR
       generalize L'.getD (k+(n+1)) 0=x at *
       obtain⟨e1,e2⟩:=ny (d:=(x+18446744073709551616-cc-bb)%18446744073709551616) bw cG cX rfl
       have ur:=mU bw cG cX
       have nk:(x+18446744073709551616-cc-bb)%18446744073709551616<18446744073709551616:=pv _ (by omega)
       generalize (x+18446744073709551616-cc-bb)%18446744073709551616=d at *
       have HN:=aad (cR _ _ (show d%4294967296<ae from pv _ (by omega)) e1)
       have pP:(d:Int)<=18446744073709551615:=by omega
       have mR:(x:Int)<=4294967295:=by unfold ae at bw;omega
       have nA:(cc:Int)<=4294967295:=by unfold ae at cG;omega
       have ed:((d%4294967296:Nat):Int)=(d:Int)%4294967296:=by omega
       have pf:Hid (ar (wr.setCell ⟨gx,k+(n+1),none⟩ (.int .u32 ((d:Int)%4294967296))) gx 184 (bT (L'.set (k+(n+1)) (d%4294967296))++sp)):=aad (by rw[<-ed];exact gS.out _)
       have gr:Hid (ar (wr.setCell ⟨gx,k+(n+1),none⟩ (.int .u32 ((d:Int)%4294967296))) gq 184 (bT Q)):=aad (hbq.out.cN (by have:=fR.out;simp;omega) _)
       have mb:Hid (Ext w2 (wr.setCell ⟨gx,k+(n+1),none⟩ (.int .u32 ((d:Int)%4294967296)))):=aad (Below.setCell hex.out (p:=⟨gx,k+(n+1),none⟩) me.out _)
       generalize L'.set (k+(n+1)) (d%4294967296)=L2 at *
       clear cR e1 hM xz xy pd cG cX bw nk ed cj hbq hex gS
       by_cases cF:d/9223372036854775808=0
       ·rw[cF] at HN
        have fH:((d:Int)/9223372036854775808 == 1)=false:=pN.2 (by omega)
        obtain⟨_,jm⟩:=hD.out.wS jb nF.out.2.2.2 xx.out HN.out
        have mc:=aad jm
        have cq:(wr.setCell ⟨gx,k+(n+1),none⟩ (.int .u32 ((d:Int)%4294967296))).cell? ⟨gq,k,none⟩=some (.int .u32 (Q.getD k 0:Nat)):=by rw[gr.out.cell,cY _ _ (by rw[lj.out];exact jb)]
        have fq:(wr.setCell ⟨gx,k+(n+1),none⟩ (.int .u32 ((d:Int)%4294967296))).frozen? ⟨gq,k,none⟩=false:=gr.out.frozen _
        generalize Q.getD k 0=qo at *
        clear jm cF e2
        go_wp2
        go_roundw
        case rel=>exact⟨k,L2,Q.set k gg,by omega,rfl,mc,aad (pf.out.cN (by have:=fR.out;simp;omega) _),aad (by rw[<-fa];exact gr.out.set _ _),aad (Below.setCell mb.out (p:=⟨gq,k,none⟩) (by have:=me.out;have:=fR.out;show w2.heap.size<=gq;omega) _)⟩
        case measure=>simp[intOf]
       ·have uu:d/9223372036854775808=1:=by omega
        rw[uu] at HN
        have fH:((d:Int)/9223372036854775808 == 1)=true:=by
         have:(d:Int)/9223372036854775808=1:=by omega
         rw[this];rfl
        have ki:1<=gg:=hD.out.pos nF.out.2.2.1 HN.out
        obtain⟨g',rfl⟩:∃g',gg=g'+1:=⟨gg-1,by omega⟩
        have Fb:(g':Int)+1<=4294967295:=by omega
        clear cF uu e2 ki
        have n5:=HN.out.len
        rw[tp.out] at n5
        have mO:=aad n5
        clear n5
        go_wp2
        clear cx fx ur fH Fb pP mR nA Fx
        generalize wr.setCell ⟨gx,k+(n+1),none⟩ (.int .u32 ((d:Int)%4294967296))=W7 at *
        go_loopw [19,24] (λc i wr=>∃(i' cc:Nat) (L3:List Nat),i'<=n+1/\i = .int .i64 i'/\c = .int .u64 cc/\cc<=1/\Hid (eA.dt L2 ys k i' cc L3)/\Hid (ar wr gx 184 (bT L3++sp))/\Hid (ar wr gq 184 (bT Q))/\Hid (Ext w2 wr)) (λ_ i _=>n+1-(intOf i).toNat)
        case atStart=>exact⟨0,0,L2,ia _,rfl,rfl,by omega,aad (eA.dt.start k HN.out.bP),pf,gr,mb⟩
        case round=>as_aux_lemma=>
         clear pf gr mb
         obtain⟨i,cc,L3,cw,rfl,rfl,cG,hA,cj,hbq,hex⟩:=hrel
         have qR:=hA.out.len
         rw[mO.out] at qR
         by_cases hin:i<n+1
         ·have cx:=cj.out.jZ (k+i) (by omega)
          have fx:wr.frozen? ⟨gx,k+i,none⟩=false:=cj.out.frozen _
          have Fy:wr.cell? ⟨gy,uq+i,none⟩=some (.int .u32 (ys.getD i 0:Nat)):=hex.out.ak (uS.out i hin)
          have bw:=hA.out.bP.getD fJ (k+i)
          have de:=BU.out.getD fJ i
          have gS:=aad (λ(y:Nat) (W:World) (h:Ext wr W)=>(cj.out.ext h).nO (k+i) y (show k+i<L3.length by omega))
          have cR:=λ(u' c':Nat) (hu:u'<ae) (e:u'+ae*c'=L3.getD (k+i) 0+ys.getD i 0+cc)=>hA.out.step (by rw[mO.out];omega) hu e
          generalize L3.getD (k+i) 0=x at *
          generalize ys.getD i 0=y at *
          have BA:=aad (cR ((x+y+cc)%ae) ((x+y+cc)/ae) (pv _ fJ) (yc _ _))
          have E1:Hid ((((x+y+cc)/ae:Nat):Int)=((cc:Int)+x+y)/4294967296):=aad (by unfold ae;omega)
          have E2:Hid ((((x+y+cc)%ae:Nat):Int)=((cc:Int)+x+y)%4294967296):=aad (by unfold ae;omega)
          have cU:(x+y+cc)/ae<=1:=by unfold ae at *;omega
          have Vz:=aad cU
          have mR:(x:Int)<=4294967295:=by unfold ae at bw;omega
          have wF:(y:Int)<=4294967295:=by unfold ae at de;omega
          have nA:(cc:Int)<=1:=by omega
          have jY:IntKind.i64.wrap ((k:Int)+(i:Int))=(k:Int)+(i:Int):=IntWalk.i64_in _ (by omega)
          clear cR hA qR cG bw de cU
          go_wp2
          go_quiet (fail)
          rename_i nq
          have cx':(wr.drewN nq).cell? ⟨gx,k+i,none⟩=some (.int .u32 x):=cx
          have fx':(wr.drewN nq).frozen? ⟨gx,k+i,none⟩=false:=fx
          have FA:=aad (λ(y:Nat)=>gS.out y (wr.drewN nq) ((Ext.refl wr).drewN nq))
          have uV:=aad (hbq.out.ext ((Ext.refl wr).drewN nq))
          have iX:=aad (hex.out.drewN nq)
          clear cj hbq hex cx fx Fy jY gS
          generalize wr.drewN nq=W8 at *
          go_wp2
          go_roundw
          case rel=>
           refine⟨i+1,(x+y+cc)/ae,L3.set (k+i) ((x+y+cc)%ae),by omega,by go_num,by rw[E1.out],Vz.out,BA,aad ?_,aad (uV.out.cN (by have:=fR.out;simp;omega) _),aad (Below.setCell iX.out (p:=⟨gx,k+i,none⟩) me.out _)⟩
           rw[<-E2.out];exact FA.out _
          case measure=>simp[intOf];omega
         ·obtain rfl:i=n+1:=by omega
          have cx:=cj.out.jZ (k+(n+1)) (by omega)
          have fx:wr.frozen? ⟨gx,k+(n+1),none⟩=false:=cj.out.frozen _
          have bw:=hA.out.bP.getD fJ (k+(n+1))
          have gS:=aad (λ(y:Nat)=>cj.out.nO (k+(n+1)) y (show k+(n+1)<L3.length by omega))
          have xA:eA.dt L2 ys k ys.length cc L3:=by rw[kt.out];exact hA.out
          obtain⟨dd,t1,t2,t3,t4⟩:=xA.close (by rw[kt.out,mO.out];omega)
          rw[kt.out] at t1 t2 t3 t4
          rw[Fs.out] at t3
          obtain⟨_,_,jm⟩:=hD.out.wU jb nF.out.2.2.2 nF.out.2.2.1 xx.out HN.out t1 t2 t3 t4
          rw[pK] at jm
          have mc:=aad jm
          generalize L3.getD (k+(n+1)) 0=x at *
          have E2:(((x+cc)%ae:Nat):Int)=((x:Int)+cc)%4294967296:=by unfold ae;omega
          have mR:(x:Int)<=4294967295:=by unfold ae at bw;omega
          have nA:(cc:Int)<=1:=by omega
          have VA:(g':Int)<=4294967295:=by have:=pc.out;unfold ae at this;omega
          have pf:Hid (ar (wr.setCell ⟨gx,k+(n+1),none⟩ (.int .u32 (((x:Int)+cc)%4294967296))) gx 184 (bT (L3.set (k+(n+1)) ((x+cc)%ae))++sp)):=aad (by rw[<-E2];exact gS.out _)
          have gr:Hid (ar (wr.setCell ⟨gx,k+(n+1),none⟩ (.int .u32 (((x:Int)+cc)%4294967296))) gq 184 (bT Q)):=aad (hbq.out.cN (by have:=fR.out;simp;omega) _)
          have mb:Hid (Ext w2 (wr.setCell ⟨gx,k+(n+1),none⟩ (.int .u32 (((x:Int)+cc)%4294967296)))):=aad (Below.setCell hex.out (p:=⟨gx,k+(n+1),none⟩) me.out _)
          generalize L3.set (k+(n+1)) ((x+cc)%ae)=L4 at *
          have cq:(wr.setCell ⟨gx,k+(n+1),none⟩ (.int .u32 (((x:Int)+cc)%4294967296))).cell? ⟨gq,k,none⟩=some (.int .u32 (Q.getD k 0:Nat)):=by rw[gr.out.cell,cY _ _ (by rw[lj.out];exact jb)]
          have fq:(wr.setCell ⟨gx,k+(n+1),none⟩ (.int .u32 (((x:Int)+cc)%4294967296))).frozen? ⟨gq,k,none⟩=false:=gr.out.frozen _
          generalize Q.getD k 0=qo at *
          clear t1 t2 t3 t4 jm hA xA qR cG bw E2 cj hbq hex gS
          go_wp2
          refine⟨⟨k,L4,Q.set k g',by omega,rfl,mc,aad (pf.out.cN (by have:=fR.out;simp;omega) _),aad (by rw[<-fa];exact gr.out.set _ _),aad (Below.setCell mb.out (p:=⟨gq,k,none⟩) (by have:=me.out;have:=fR.out;show w2.heap.size<=gq;omega) _)⟩,by simp[intOf]⟩
theorem FC (a b:Nat) (v1 v2:Value) (w:World) (h1:bJ a v1 w) (h2:bJ b v2 w) (ha:bl a<=137438953472) (hb:bl b<=137438953472) (h0:b≠0) :
  Calls Tryz.prog 132 #[v1,v2] w (sf (a/b) (a%b) w):=by
 rcases aV a b with h | h
 ·rw[sD h,nK h]
  exact BS a b v1 v2 w h1 h2 ha hb h
 ·rcases aV b ae with h' | h'
  ·exact Fp a b v1 v2 w h1 h2 ha (by omega) h' h
  ·obtain⟨n,s,P,hI,hn,hs⟩:=Vo ha h' h
   have hh:=h2
   obtain⟨A,c,hv,_,_⟩:=h2
   rw[hn] at hv
   subst hv
   exact BT a b n s P A c v1 w h1 hh ha h hI hs
end Go.Proofs.YtnciifikfkpanaaGreatDoor
