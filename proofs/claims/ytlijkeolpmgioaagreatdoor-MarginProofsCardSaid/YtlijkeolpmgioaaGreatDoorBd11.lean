/- The base of the proof: contracts of functions, the engine that shows them, and mathematics. -/
import Derived.Test.YtlijkeolpmgioaaGreatDoorBd10
set_option maxRecDepth 100000
set_option linter.unusedVariables false
set_option linter.unusedSimpArgs false
set_option maxHeartbeats 1000000
namespace Go.Proofs.YtlijkeolpmgioaaGreatDoor.AM
open Go.RowKit
theorem half {r:Nat} (h:r<=64):(2:Int)≠0/\ax ((r:Int).tdiv 2):=by rw[Ht (by omega)];exact⟨by omega,by unfold ax;omega⟩
noncomputable def XW:List az:=[]
theorem vx:bd XW:=trivial
def a3D:CF
 | [.k (.list .q) xs]=>some (none,.own 0 0 5,[.arr 55 .q xs])
 | _=>none
def Hb:az:=⟨165,false,a3D⟩
def LS (xs:List Rat):bk:=⟨nU,nL,nR,nU⟩
def yt (xs:List Rat):Prop:=∀b:Bool,(b=true->xs=[])->bif (bif true then b else !b) then xs=[] else ([]:List Rat).length+xs.length<=aB/\([]:List Rat).append xs=xs
theorem Hc (xs:List Rat):awp (cfg XW []) (LS xs) Tryz.f165.ntmps (Tryz.f165.body.getD .skip) (jj Tryz.f165.results.toList (.own 0 0 5) 5 (.arr 55 .q xs)) ⟨aEE 0 [.k (.list .q) xs],[]⟩=yt xs:=by kernel_rfl
theorem Hd (xs:List Rat) (hf:cJ [.k (.list .q) xs]):yt xs:=by
 unfold yt;intro b hb
 cases b with
 | true=>exact hb rfl
 | false=>exact⟨by have h:xs.length<=aB:=hf.1.1;simpa using h,rfl⟩
theorem He:aqJ (cfg []) Hb:=oY vx bp Tryz.func165 (by kernel_rfl) (by kernel_rfl) rfl λargs g r hn hc hg hf=>by
 replace hc:a3D args=some (g,r,hn):=hc;unfold a3D at hc;split at hc
 ·cases hc;have hv:=Hd _ hf
  cases aY (Hc _) hv;exact⟨by kernel_rfl,_,5,_,rfl,rfl,rfl,by assumption⟩
 ·cases hc
noncomputable def LE2:List az:=Hb::[]
theorem C9:bd LE2:=⟨He,trivial⟩
def Da:CF
 | [.k (.list (.list .q)) M]=>some (none,.own 0 0 1,[.bc 43 55 .q (bh M.length M.length) ([]::M)])
 | _=>none
def N0:az:=⟨153,false,Da⟩
def Sj (M:LM):bk:=⟨nU,λkey_=>match key_ with
 | 3=>some (⟨Nat,λi=>[(3,.own 8 0 1),(9,.k (.list (.list .q)) M),(10,.k (.int .i64) ((M.length:Nat):Int)),(11,.k (.int .i64) ((i:Nat):Int))],
 λi=>[(8,.bc 43 55 .q (bh M.length i) ([]::M.take i))],λ_ i=>i<=M.length,λi=>M.length-i⟩) | _=>none,nR,nU⟩
def Db (M:LM):Prop:=M.length<=aB->(0<=(↑M.length:Int)/\(↑M.length:Int)<=(↑M.length:Int)/\(↑M.length:Int)<=(1099511627776:Int))/\(M.length<=aB->∃(x0:Nat),((M
 = M/\(↑M.length:Int)=↑M.length/\(0:Int)=(x0:Int))/\List.replicate (↑M.length:Int).toNat (0:Nat)=bh M.length x0/\[[]]=[]::List.take x0
 M)/\x0<=M.length/\∀(x:Nat),x<=M.length->bif decide ((x:Int)<↑M.length) then (0<=(x:Int)/\(x:Int)<↑M.length)/\((0:Int) <=
 (x:Int)/\(x:Int)<↑(bh M.length x).length)/\((x:Int).toNat<(bh M.length x).length/\([]::List.take x M).length<([]::List.take x M ++
 [M.getD (x:Int).toNat []]).length)/\ax ((x:Int)+1)/\∃(x':Nat),((M=M/\(↑M.length:Int)=↑M.length/\(x:Int)+1=(↑x' :
 Int))/\(bh M.length x).set (x:Int).toNat (([]::List.take x M).length)=bh M.length x'/\[]::List.take x M++[M.getD (x:Int).toNat []]=[]::List.take
 x' M)/\x'<=M.length/\M.length-x'<M.length-x else bh M.length x=bh M.length M.length/\[]::List.take x M=[]::M)
theorem LY (M:LM):awp (cfg LE2 []) (Sj M) Tryz.f153.ntmps (Tryz.f153.body.getD .skip) (jj Tryz.f153.results.toList (.own 0 0 1) 8 (.bc 43 55 .q (bh M.length M.length) ([]::M))) ⟨aEE 0 [.k (.list (.list .q)) M],[]⟩=Db M:=by kernel_rfl
theorem LZ (M:LM) (hf:cJ [.k (.list (.list .q)) M]):Db M:=by
 unfold Db;intro hL;have Bn:=hL;unfold aB at Bn;refine⟨⟨by omega,by omega,by omega⟩,λ_=>⟨0,⟨⟨rfl,rfl,rfl⟩,x8 _,rfl⟩,fi _,λi hi=>aH (λh=>?_) λh=>?_⟩⟩
 ·have hi':i<M.length:=by omega
  refine⟨idx h,⟨by omega,by rw[pL];omega⟩,⟨by rw[pL];exact hi',by simp⟩,nQ hi' hL,i+1,⟨⟨rfl,rfl,rfl⟩,?_,?_⟩,by omega,by omega⟩
  ·rw[show([]::List.take i M).length=i+1 by simp;omega];exact As hi'
  ·exact GI (List.cons []) (qW hi')
 ·rw[show i=M.length by omega,tP];exact⟨rfl,rfl⟩
theorem L6:aqJ (cfg []) N0:=oY C9 bp Tryz.func153 (by kernel_rfl) (by kernel_rfl) rfl λargs g r hn hc hg hf=>by
 replace hc:Da args=some (g,r,hn):=hc;unfold Da at hc;split at hc
 ·cases hc;have hv:=LZ _ hf
  cases aY (LY _) hv;exact⟨by kernel_rfl,_,8,_,rfl,rfl,rfl,by assumption⟩
 ·cases hc
open Go.ChangeShapes Go.WideShapes Go.ChangeAt
abbrev Any:Nat->Prop:=λ_=>True
theorem Mg {ct:az} {args:List AV} {g:Option Prop} (h:aqJ (cfg []) ct) (hc:ct.c args=some (g,.k .bool true,[])) (hg:bt g) {w:World} {vs:List Value} (ht:cK w) (hv:VL Any w dX args vs) :
  Calls Tryz.prog ct.f vs.toArray w λe w'=>e = .returned (.bool true)/\Ext w w':=
 (h.ok args g _ [] hc hg Any w vs ht hv).mono λe w' ⟨v, β',he,hm,hr⟩=>by obtain⟨c,hc,hv⟩:=hr;have hc:c=[.bool true]:=hc;subst hc;exact⟨by rw[he,hv];rfl,hm.fr.ext⟩
theorem wf_i64 {n:Int} (h:(Lit.int .i64 n).wf=true):ax n:=by simp only[Lit.wf,dz,AB] at h;exact h
theorem yu:∀zs:List Int,(zs.map λn=>[Value.int .i64 n]).flatten=zs.map λn=>Value.int .i64 n
 | []=>rfl
 | z::zs=>by rw[Ga,G4,yu zs];rfl
section
variable {H:Type} {enc:TypeId×Value->H} {W:World} {base:Nat} {v:Value} {d:DataW H} {p:List MemPlace} {t e:TypeId}
theorem Mh (ht:Tryz.prog.underlying t=some (.slice e)) (he:Tryz.prog.underlying e=some (.int .i64)) (hc:Tryz.prog.cellsOf e=1) {fuel:Nat} {cs:List Value} {x:DataW H×List MemPlace} (h:DataW.trod enc Tryz.prog W 0 (λ_=>true) true fuel t cs=some x) :
  ∃l:List Int,bj Any W (.list (.int .i64)) l cs/\∀i,ax (l.getD i 0):=by
 rcases open_ints ht he hc h with ⟨lz,_⟩ | ⟨a,len,cap,zs,lz,_,hl,hm,hz,_,aK,hwz⟩
 ·exact⟨[],⟨none,0,lz,bF _,fi _,λay=>absurd rfl ay⟩,λi=>by show ax 0;unfold ax;omega⟩
 ·simp only[if_true] at hz
  have hlen:(zs.take len).length=len:=by rw[kI];omega
  refine⟨zs.take len,⟨some a,cap,by rw[hlen];exact lz,by rw[hlen];exact hl,by rw[hlen];exact nc hl hm,λay=>?_⟩,λi=>?_⟩
  ·have h0:0<len:=by
    rcases iS len with h | h
    ·subst h;simp at ay
    ·exact h
   obtain⟨ab,ao,spot⟩:=a
   have adt:spot=none:=by simpa [Addr.add] using World.cell?_spot (aK 0 (by omega))
   subst adt
   refine⟨ab,ao,(zs.take len).map λn=>[Value.int .i64 n],rfl,trivial,?_,λi hi=>?_,by simp,λi x c hx hc=>?_⟩
   ·have h:=aK 0 (by omega)
    rw[Addr.add_lit] at h
    exact World.block_lt_of_cell? W _ h
   ·rw[yu] at hi ⊢
    rw[yo,hlen] at hi
    have hcj:=aK i (by omega)
    rw[Addr.add_lit] at hcj
    rw[hcj,yp,vu hi]
    have OK:i<zs.length:=by omega
    rw[eB OK]
    simp[au,eB OK]
   ·rw[yp,hx] at hc
    injection hc with hc
    exact hc.symm
  ·rcases cM i (zs.take len).length with hi | hi
   ·rw[au,eB hi]
    exact wf_i64 (hwz _ (List.mem_of_mem_take (Hw hi)))
   ·rw[au,iY hi]
    show ax 0
    unfold ax;omega
theorem aet (ht:Tryz.prog.underlying t=some (.slice e)) (he:Tryz.prog.underlying e=some (.int .i64)) (hc:Tryz.prog.cellsOf e=1) (fV:Value.okWide Tryz.prog W .any base t v) (h:DataW.Trod enc Tryz.prog W 0 (λ_=>true) true t v d p) :
  ∃l:List Int,aq Any W dX (.k (.list (.int .i64)) l) v/\∀i,ax (l.getD i 0):=by
 obtain⟨a1,len,cap,rfl⟩:=okWide_slice ht fV
 obtain⟨fuel,hf⟩:=h
 obtain⟨l,h1,h2⟩:=Mh ht he hc hf
 exact⟨l,⟨_,h1,rfl⟩,h2⟩
end
def aA5 (F:Nat->Nat->Rat) (c:Nat):Nat->Nat->Nat
 | i,0=>i
 | i,k+1=>if F i c=0 then aA5 F c (i+1) k else i
def dk (F:Nat->Nat->Rat) (a b:Nat):Nat->Nat->Rat:=λi=>if i=a then F b else if i=b then F a else F i
def wa (F:Nat->Nat->Rat) (r:Nat) (k:Rat):Nat->Nat->Rat:=λi j=>if i=r then F i j*k else F i j
def abA (F:Nat->Nat->Rat) (r c:Nat):Nat->Nat->Rat:=λi j=>if i=r then F i j else F i j-F i c*F r j
def abv (n:Nat) (S:(Nat->Nat->Rat)×List Nat) (c:Nat):(Nat->Nat->Rat)×List Nat:=
 if aA5 S.1 c S.2.length (n-S.2.length)<n then
  (abA (wa (dk S.1 S.2.length (aA5 S.1 c S.2.length (n-S.2.length))) S.2.length (1/dk S.1 S.2.length (aA5 S.1 c S.2.length (n-S.2.length)) S.2.length c)) S.2.length c,S.2++[c])
 else S
def rr (n:Nat) (F:Nat->Nat->Rat):Nat->(Nat->Nat->Rat)×List Nat
 | 0=>(F,[])
 | c+1=>abv n (rr n F c) c
theorem acn (F:Nat->Nat->Rat) (c:Nat):∀k i,i<=aA5 F c i k/\aA5 F c i k<=i+k
 | 0,i=>by simp[aA5]
 | k+1,i=>by have:=acn F c k (i+1);unfold aA5;split<;>omega
theorem acx {F:Nat->Nat->Rat} {c:Nat}:∀{k i},aA5 F c i k<i+k->F (aA5 F c i k) c≠0
 | 0,i,h=>by simp[aA5] at h
 | k+1,i,h=>by
  unfold aA5 at h ⊢;split
  ·rename_i h0;rw[aV h0] at h;exact acx (by omega)
  ·assumption
theorem ac8 {F:Nat->Nat->Rat} {c:Nat}:∀{k i j},i<=j->j<aA5 F c i k->F j c=0
 | 0,i,j,h1,h2=>by simp[aA5] at h2;omega
 | k+1,i,j,h1,h2=>by
  unfold aA5 at h2;split at h2
  ·rename_i h0;rcases cM i j with h3 | h3
   ·exact ac8 (by omega) h2
   ·rw[show j=i by omega];exact h0
  ·omega
theorem agc {n:Nat} {S:(Nat->Nat->Rat)×List Nat} {c:Nat} (h:S.2.length<=n):(abv n S c).2.length<=n/\S.2.length<=(abv n S c).2.length:=by
 unfold abv;have:=acn S.1 c (n-S.2.length) S.2.length;split
 ·simp;omega
 ·omega
theorem acG (n:Nat) (F:Nat->Nat->Rat):∀c,(rr n F c).2.length<=n
 | 0=>fi n
 | c+1=>(agc (acG n F c)).1
theorem ais {n s:Nat} {S:(Nat->Nat->Rat)×List Nat} (hs:1<=s) (h:∀i j,Sq s (S.1 i j)) (c:Nat) (hn:S.2.length<=n):∀i j,Sq (5*s) ((abv n S c).1 i j):=by
 unfold abv;split
 ·rename_i hp;have hsw:∀i j,Sq s (dk S.1 S.2.length (aA5 S.1 c S.2.length (n-S.2.length)) i j):=λi j=>by
   unfold dk;split
   ·exact h _ _
   ·split
    ·exact h _ _
    ·exact h _ _
  have ay:dk S.1 S.2.length (aA5 S.1 c S.2.length (n-S.2.length)) S.2.length c≠0:=by unfold dk;rw[aV rfl];exact acx (by omega)
  have h1:Sq s (1:Rat):=Sq.int (n:=1) (Sm.one.le hs) hs;have hk:=h1.div (hsw S.2.length c) ay;generalize dk S.1 S.2.length (aA5 S.1 c S.2.length (n-S.2.length))=G at *
  generalize S.2.length=r at *
  have hinv:Sq s (1/G r c):=by rw[GX,Hf];exact(hsw r c).inv ay
  have hsc:∀i j,Sq (2*s) (wa G r (1/G r c) i j):=λi j=>by
   unfold wa;split
   ·exact((hsw i j).mul hinv).le (by omega)
   ·exact(hsw i j).le (by omega)
  have agd:∀i j,i≠r->Sq s (wa G r (1/G r c) i j):=λi j hi=>by unfold wa;rw[aI hi];exact hsw i j
  intro i j;show Sq (5*s) (abA (wa G r (1/G r c)) r c i j);unfold abA;split
  ·exact(hsc i j).le (by omega)
  ·rename_i hi;exact((agd i j hi).sub ((agd i c hi).mul (hsc r j))).le (by omega)
 ·exact λi j=>(h i j).le (by omega)
theorem afy {n s:Nat} {F:Nat->Nat->Rat} (hs:1<=s) (h:∀i j,Sq s (F i j)):∀c i j,Sq (s*5^c) ((rr n F c).1 i j)
 | 0=>λi j=>(h i j).le (by simp)
 | c+1=>λi j=>by
  have h1:=ais (n:=n) (EX hs (pK (n:=c) (show 0<5 by omega))) (afy hs h c) c (acG n F c) i j;have h2:s*5^(c+1)=5*(s*5^c):=by rw[lN,<-po,iR]
  rw[h2];exact h1
theorem acj {f:Nat->Rat}:∀{n:Nat},(∀i,i<n->f i=0)->apV f n=0
 | 0,_=>rfl
 | n+1,h=>by rw[apV,acj λi hi=>h i (by omega),h n (by omega)];grind
theorem ace {f:Nat->Rat} {a:Nat}:∀{n:Nat},a<n->(∀i,i<n->i≠a->f i=0)->apV f n=f a
 | n+1,ha,h=>by
  rw[apV];by_cases e:a=n
  ·subst e;rw[acj λi hi=>h i (by omega) (by omega)];grind
  ·rw[ace (by omega) λi hi=>h i (by omega),h n (by omega) (λe'=>e e'.symm)];grind
theorem afa {f:Nat->Rat} {a b:Nat} (iL:a≠b):∀{n:Nat},a<n->b<n->(∀i,i<n->i≠a->i≠b->f i=0)->apV f n=f a+f b
 | n+1,ha,hb,h=>by
  rw[apV];by_cases e:a=n
  ·subst e;rw[ace (a:=b) (by omega) λi hi ay=>h i (by omega) (by omega) ay];grind
  ·by_cases e2:b=n
   ·subst e2;rw[ace (a:=a) (by omega) λi hi ay=>h i (by omega) ay (by omega)]
   ·rw[afa iL (by omega) (by omega) λi hi=>h i (by omega),h n (by omega) (λe'=>e e'.symm) (λe'=>e2 e'.symm)];grind
theorem acw (f g:Nat->Rat):∀n,apV (λi=>f i+g i) n=apV f n+apV g n
 | 0=>by simp only[apV];grind
 | n+1=>by simp only[apV];rw[acw f g n];grind
theorem abC (k:Rat) (f:Nat->Rat):∀n,apV (λi=>k*f i) n=k*apV f n
 | 0=>by simp only[apV];grind
 | n+1=>by simp only[apV];rw[abC k f n];grind
def Ker (n m:Nat) (F:Nat->Nat->Rat) (x:Nat->Rat):Prop:=∀i,i<n->apV (λj=>F i j*x j) m=0
theorem ahC {n m a b:Nat} {F:Nat->Nat->Rat} {x:Nat->Rat} (ha:a<n) (hb:b<n):Ker n m (dk F a b) x↔Ker n m F x:=by
 constructor
 ·intro h i hi;by_cases e1:i=a
  ·have:=h b hb;unfold dk at this;by_cases e2:b=a
   ·rw[aV e2] at this;rw[e1,<-e2];exact this
   ·rw[aI e2,aV rfl] at this;rw[e1];exact this
  ·by_cases e2:i=b
   ·have:=h a ha;unfold dk at this;rw[aV rfl] at this;rw[e2];exact this
   ·have:=h i hi;unfold dk at this;rw[aI e1,aI e2] at this;exact this
 ·intro h i hi;unfold dk;split
  ·exact h b hb
  ·split
   ·exact h a ha
   ·exact h i hi
theorem agJ {n m r:Nat} {F:Nat->Nat->Rat} {k:Rat} (hk:k≠0) {x:Nat->Rat}:Ker n m (wa F r k) x↔Ker n m F x:=by
 have e:∀i,apV (λj=>wa F r k i j*x j) m=if i=r then k*apV (λj=>F i j*x j) m else apV (λj=>F i j*x j) m:=λi=>by
  unfold wa;split
  ·rw[<-abC];exact uv λj _=>by grind
  ·rfl
 constructor
 ·intro h i hi;have:=h i hi;rw[e] at this;split at this
  ·rcases G5.1 this with h1 | h1
   ·exact absurd h1 hk
   ·exact h1
  ·exact this
 ·intro h i hi;rw[e,h i hi];split
  ·grind
  ·rfl
theorem ahD {n m r c:Nat} {F:Nat->Nat->Rat} (hr:r<n) {x:Nat->Rat}:Ker n m (abA F r c) x↔Ker n m F x:=by
 have e:∀i,apV (λj=>abA F r c i j*x j) m=if i=r then apV (λj=>F i j*x j) m else apV (λj=>F i j*x j) m+(-(F i c))*apV (λj=>F r j*x j) m:=λi=>by
  unfold abA;split
  ·rfl
  ·rw[<-abC,<-acw];exact uv λj _=>by grind
 constructor
 ·intro h i hi;have h1:=h r hr;rw[e,aV rfl] at h1;have h2:=h i hi;rw[e] at h2;split at h2
  ·exact h2
  ·rw[h1] at h2;grind
 ·intro h i hi;rw[e,h i hi];split
  ·rfl
  ·rw[h r hr];grind
structure acs (n c:Nat) (F:Nat->Nat->Rat) (l:List Nat):Prop where
 len:l.length<=n
 lt:∀k,k<l.length->l.getD k 0<c
 inc:∀k k',k<k'->k'<l.length->l.getD k 0<l.getD k' 0
 one:∀k i,k<l.length->i<n->F i (l.getD k 0)=if i=k then 1 else 0
 pre:∀k j,k<l.length->j<l.getD k 0->F k j=0
 low:∀i j,l.length<=i->i<n->j<c->F i j=0
theorem acs.zero (n:Nat) (F:Nat->Nat->Rat):acs n 0 F []:=⟨fi n,λk h=>absurd h (ia k),λk k' _ h=>absurd h (ia k'),λk _ h=>absurd h (ia k),λk _ h=>absurd h (ia k),λ_ j _ _ h=>absurd h (ia j)⟩
theorem acs.step {n c:Nat} {S:(Nat->Nat->Rat)×List Nat} (h:acs n c S.1 S.2):acs n (c+1) (abv n S c).1 (abv n S c).2:=by
 obtain⟨F,l⟩:=S;have h:acs n c F l:=h;unfold abv;dsimp only;have hp1:=acn F c (n-l.length) l.length;have hp2:= @acx F c (n-l.length) l.length;have hp3:= @ac8 F c (n-l.length) l.length;have hlen:=h.len;generalize aA5 F c l.length (n-l.length)=p at *
 split
 ·rename_i hp;have ay:=hp2 (by omega);have hrn:l.length<n:=by omega
  generalize hr:l.length=r at *
  have hG:∀i j,r<=i->i<n->j<c->dk F r p i j=0:=λi j h1 h2 h3=>by
   unfold dk;split
   ·exact h.low p j (by omega) hp h3
   ·split
    ·exact h.low r j (by omega) hrn h3
    ·exact h.low i j (by omega) h2 h3
  have hGs:∀i j,i<r->dk F r p i j=F i j:=λi j h1=>by unfold dk;rw[aI (by omega),aI (by omega)]
  have hGr:dk F r p r c≠0:=by unfold dk;rw[aV rfl];exact ay
  generalize dk F r p=G at *
  have hHr:wa G r (1/G r c) r c=1:=by unfold wa;rw[aV rfl,GX,Hf,KZ _ hGr]
  have hH:∀i j,r<=i->i<n->j<c->wa G r (1/G r c) i j=0:=λi j h1 h2 h3=>by
   unfold wa;split
   ·rw[hG i j h1 h2 h3];grind
   ·exact hG i j h1 h2 h3
  have hHs:∀i j,i<r->wa G r (1/G r c) i j=F i j:=λi j h1=>by unfold wa;rw[aI (by omega)];exact hGs i j h1
  generalize wa G r (1/G r c)=H at *
  have hEr:∀j,abA H r c r j=H r j:=λj=>by unfold abA;rw[aV rfl]
  have hEi:∀i j,i≠r->abA H r c i j=H i j-H i c*H r j:=λi j h1=>by unfold abA;rw[aI h1]
  have ha:∀k,k<r->(l++[c]).getD k 0=l.getD k 0:=λk hk=>xT (by omega) 0;have hb:(l++[c]).getD r 0=c:=by rw[xU (by omega),hr,Gf];rfl
  have hL:(l++[c]).length=r+1:=by rw[fK,hr];rfl
  show acs n (c+1) (abA H r c) (l++[c]);refine⟨by omega,λk hk=>?_,λk k' h1 h2=>?_,λk i hk hi=>?_,λk j hk hj=>?_,λi j h1 h2 h3=>?_⟩
  ·rcases cM k r with h4 | h4
   ·rw[ha k h4];have:=h.lt k (by omega);omega
   ·rw[show k=r by omega,hb];omega
  ·rcases cM k' r with h4 | h4
   ·rw[ha k' h4,ha k (by omega)];exact h.inc k k' h1 (by omega)
   ·rw[show k'=r by omega,hb,ha k (by omega)];exact h.lt k (by omega)
  ·rcases cM k r with h4 | h4
   ·rw[ha k h4];have aU:=h.lt k (by omega);have hz:H r (l.getD k 0)=0:=hH r _ (bF r) hrn aU;by_cases e:i=r
    ·rw[e,hEr,hz,aI (by omega)]
    ·rw[hEi i _ e,hz];have:H i (l.getD k 0)=if i=k then 1 else 0:=by
      rcases cM i r with h5 | h5
      ·rw[hHs i _ h5];exact h.one k i (by omega) hi
      ·rw[hH i _ h5 hi aU,aI (by omega)]
     rw[this];grind
   ·have e:k=r:=by omega
    subst e;rw[hb];by_cases e:i=k
    ·rw[e,hEr,hHr,aV rfl]
    ·rw[hEi i _ e,hHr,aI e];grind
  ·rcases cM k r with h4 | h4
   ·rw[ha k h4] at hj;have aU:=h.lt k (by omega);rw[hEi k _ (by omega),hHs k j h4,h.pre k j (by omega) hj,hH r j (bF r) hrn (by omega)];grind
   ·have e:k=r:=by omega
    subst e;rw[hb] at hj;rw[hEr];exact hH k j (bF k) hrn hj
  ·rw[hL] at h1;rw[hEi i _ (by omega)];rcases cM j c with h4 | h4
   ·rw[hH i j (by omega) h2 h4,hH r j (bF r) hrn h4];grind
   ·rw[show j=c by omega,hHr];grind
 ·rename_i hp;show acs n (c+1) F l;refine⟨hlen,λk hk=>by have:=h.lt k hk;omega,h.inc,h.one,h.pre,λi j h1 h2 h3=>?_⟩;rcases cM j c with h4 | h4
  ·exact h.low i j h1 h2 h4
  ·rw[show j=c by omega];exact hp3 h1 (by omega)
theorem aca (n:Nat) (F:Nat->Nat->Rat):∀c,acs n c (rr n F c).1 (rr n F c).2
 | 0=>acs.zero n F
 | c+1=>(aca n F c).step
theorem ahE {n m c:Nat} {S:(Nat->Nat->Rat)×List Nat} (hn:S.2.length<=n) {x:Nat->Rat}:Ker n m (abv n S c).1 x↔Ker n m S.1 x:=by
 unfold abv;have hp1:=acn S.1 c (n-S.2.length) S.2.length;have hp2:= @acx S.1 c (n-S.2.length) S.2.length;generalize aA5 S.1 c S.2.length (n-S.2.length)=p at *
 split
 ·rename_i hp;have hr:S.2.length<n:=by omega
  have ay:dk S.1 S.2.length p S.2.length c≠0:=by unfold dk;rw[aV rfl];exact hp2 (by omega)
  have hk:1/dk S.1 S.2.length p S.2.length c≠0:=λe=>by have:=KZ _ ay;rw[GX,Hf] at e;rw[e] at this;grind
  exact(ahD hr).trans ((agJ hk).trans (ahC hr hp))
 ·exact Iff.rfl
theorem aeM {n m:Nat} {F:Nat->Nat->Rat} {x:Nat->Rat}:∀c,Ker n m (rr n F c).1 x↔Ker n m F x
 | 0=>Iff.rfl
 | c+1=>(ahE (acG n F c)).trans (aeM c)
def acm (F:Nat->Nat->Rat) (l:List Nat) (j t:Nat):Rat:=if t=j then 1 else if l.idxOf t<l.length then -(F (l.idxOf t) j) else 0
theorem acs.idx {n c:Nat} {F:Nat->Nat->Rat} {l:List Nat} (h:acs n c F l) {k:Nat} (hk:k<l.length):l.idxOf (l.getD k 0)=k:=by
 have hm:l.getD k 0∈l:=Ao hk 0;have h1:l.idxOf (l.getD k 0)<l.length:=LJ hm;have h2:l.getD (l.idxOf (l.getD k 0)) 0=l.getD k 0:=by rw[au,eB h1];exact List.getElem_idxOf h1
 rcases vv (l.idxOf (l.getD k 0)) k with h3 | h3 | h3
 ·have:=h.inc _ _ h3 hk;omega
 ·exact h3
 ·have:=h.inc _ _ h3 h1;omega
theorem ado {l:List Nat} {t:Nat} (h:l.idxOf t<l.length):l.getD (l.idxOf t) 0=t:=by rw[au,eB h];exact List.getElem_idxOf h
theorem acs.col {n m:Nat} {F:Nat->Nat->Rat} {l:List Nat} (h:acs n m F l) {j:Nat} (hj:j<m) (hn:∀k,k<l.length->l.getD k 0≠j):Ker n m F (acm F l j):=by
 intro i hi;rcases cM i l.length with hil | hil
 ·have aU:=h.lt i hil;have ay:=hn i hil;rw[afa (a:=j) (b:=l.getD i 0) (λe=>ay e.symm) hj aU λt ht h1 h2=>?_]
  ·unfold acm;rw[aV rfl,aI ay,h.idx hil,aV hil,h.one i i hil hi,aV rfl];grind
  ·unfold acm;rw[aI h1];by_cases h3:l.idxOf t<l.length
   ·have e:=ado h3;have:=h.one (l.idxOf t) i h3 hi;rw[e] at this;rw[this,aI (λe'=>h2 (by rw[e',e]))];grind
   ·rw[aI h3];grind
 ·exact acj λt ht=>by rw[h.low i t hil hi ht];grind
theorem age:∀{l l':List Nat},(∀k k',k<k'->k'<l.length->l.getD k 0<l.getD k' 0)->(∀k k',k<k'->k'<l'.length->l'.getD k 0<l'.getD k' 0)->(∀k,k<l.length->∃k',k'<l'.length/\l'.getD k' 0=l.getD k 0)->(∀k,k<l'.length->∃k',k'<l.length/\l.getD k' 0=l'.getD k 0)->l=l'
 | [],[],_,_,_,_=>rfl
 | [],b::l',_,_,_,h=>by obtain⟨k,hk,_⟩:=h 0 (by simp);simp at hk
 | a::l,[],_,_,h,_=>by obtain⟨k,hk,_⟩:=h 0 (by simp);simp at hk
 | a::l,b::l',h1,h2,h3,h4=>by
  have e:a=b:=by
   obtain⟨k,hk,ek⟩:=h3 0 (by simp);obtain⟨k',sF,ek'⟩:=h4 0 (by simp);have ek:(b::l').getD k 0=a:=ek;have ek':(a::l).getD k' 0=b:=ek';rcases iS k with e | e
   ·subst e;exact ek.symm
   ·have:=h2 0 k e hk;rcases iS k' with e' | e'
    ·subst e';exact ek'
    ·have h5:=h1 0 k' e' sF;have h6:(b::l').getD 0 0=b:=rfl;have h7:(a::l).getD 0 0=a:=rfl;omega
  subst e;congr 1;refine age (λk k' hk sF=>h1 (k+1) (k'+1) (by omega) (by simpa using sF)) (λk k' hk sF=>h2 (k+1) (k'+1) (by omega) (by simpa using sF)) (λk hk=>?_) λk hk=>?_
  ·obtain⟨k',sF,e⟩:=h3 (k+1) (by simpa using hk)
   cases k' with
   | zero=>have:=h1 0 (k+1) (by omega) (by simpa using hk);rw[<-e] at this;exact absurd this (yq _)
   | succ k'=>exact⟨k',by simpa using sF,e⟩
  ·obtain⟨k',sF,e⟩:=h4 (k+1) (by simpa using hk)
   cases k' with
   | zero=>have:=h2 0 (k+1) (by omega) (by simpa using hk);rw[<-e] at this;exact absurd this (yq _)
   | succ k'=>exact⟨k',by simpa using sF,e⟩
theorem akN (f:Nat->Nat->Rat) (n:Nat):∀m,apV (λi=>apV (λj=>f i j) m) n=apV (λj=>apV (λi=>f i j) n) m
 | 0=>acj λ_ _=>rfl
 | m+1=>by rw[apV,<-akN f n m,<-acw];rfl
def abD (m:Nat) (A:Nat->Nat->Rat) (b:Nat->Rat):Nat->Nat->Rat:=λi j=>if j<m then A i j else b i
theorem alB (m:Nat) (A:Nat->Nat->Rat) (b:Nat->Rat) (i:Nat) (x:Nat->Rat):apV (λj=>abD m A b i j*x j) (m+1)=apV (λj=>A i j*x j) m+b i*x m:=by
 rw[apV];congr 1
 ·exact uv λj hj=>by unfold abD;rw[aV hj]
 ·unfold abD;rw[aI (by omega)]
def akD (m:Nat) (R:Nat->Nat->Rat) (l:List Nat) (t:Nat):Rat:=if l.idxOf t<l.length then R (l.idxOf t) m else 0
theorem amQ {n m:Nat} {A:Nat->Nat->Rat} {b:Nat->Rat} {R:Nat->Nat->Rat} {l:List Nat} (h:acs n (m+1) R l) (hk:∀x,Ker n (m+1) R x->Ker n (m+1) (abD m A b) x) (hm:∀k,k<l.length->l.getD k 0≠m) (i:Nat) (hi:i<n):apV (λj=>A i j*akD m R l j) m=b i:=by
 have h1:=hk _ (h.col (tS m) hm) i hi;rw[alB] at h1;have e1:acm R l m m=1:=by unfold acm;rw[aV rfl]
 have e2:apV (λj=>A i j*acm R l m j) m = -1*apV (λj=>A i j*akD m R l j) m:=by rw[<-abC];refine uv λj hj=>?_;unfold acm akD;rw[aI (by omega)];split<;>grind
 rw[e1,e2] at h1;grind
theorem amx {n m:Nat} {A:Nat->Nat->Rat} {b x:Nat->Rat} {R:Nat->Nat->Rat} {l:List Nat} (h:acs n (m+1) R l) (hk:∀x,Ker n (m+1) (abD m A b) x->Ker n (m+1) R x) (hx:∀i,i<n->apV (λj=>A i j*x j) m=b i) (k:Nat) (hkl:k<l.length):l.getD k 0≠m:=by
 intro e;have hkn:k<n:=gA hkl h.len;have h1:=hk (λt=>if t<m then x t else -1) (λi hi=>by rw[alB,aI (by omega)];have:apV (λj=>A i j*if j<m then x j else -1) m=b i:=(uv λj hj=>by rw[aV hj]).trans (hx i hi);rw[this];grind) k hkn
 rw[ace (a:=m) (tS m) λt ht ay=>by rw[h.pre k t hkl (by omega)];grind] at h1;have h2:=h.one k k hkl hkn;rw[e,aV rfl] at h2;rw[h2] at h1;have h3:(λt=>if t<m then x t else (-1:Rat)) m = -1:=aI (by omega);rw[h3] at h1;grind
def sgn (i:Nat):Rat:=if i%2=0 then 1 else -1
theorem afb (i:Nat):sgn (i+1) = -sgn i:=by
 unfold sgn;by_cases h:i%2=0
 ·rw[aV h,aI (by omega)]
 ·rw[aI h,aV (by omega)];grind
def skip (i a:Nat):Nat:=if a<i then a else a+1
def sg2 (i a:Nat):Nat:=if a=i then i+1 else if a=i+1 then i else a
theorem abX {i a:Nat} (h:a<i):skip i a=a:=aV h
theorem ab1 {i a:Nat} (h:¬a<i):skip i a=a+1:=aI h
theorem afC {i:Nat}:sg2 i i=i+1:=aV rfl
theorem afD {i:Nat}:sg2 i (i+1)=i:=by unfold sg2;rw[aI (by omega),aV rfl]
theorem acy {i a:Nat} (h:a≠i) (h':a≠i+1):sg2 i a=a:=by unfold sg2;rw[aI h,aI h']
theorem acK (F:Nat->Nat->Rat) (i a:Nat):dk F i (i+1) a=F (sg2 i a):=by
 unfold dk sg2;split
 ·rfl
 ·split<;>rfl
theorem sk0 (i a:Nat):sg2 i (skip i a)=skip (i+1) a:=by
 by_cases h:a<i
 ·rw[abX h,abX (by omega),acy (by omega) (by omega)]
 ·rw[ab1 h];by_cases h2:a=i
  ·subst h2;rw[afD,abX (by omega)]
  ·rw[acy (by omega) (by omega),ab1 (by omega)]
theorem sk1 (i a:Nat):sg2 i (skip (i+1) a)=skip i a:=by
 by_cases h:a<i
 ·rw[abX h,abX (by omega),acy (by omega) (by omega)]
 ·rw[ab1 h];by_cases h2:a=i
  ·subst h2;rw[abX (by omega),afC]
  ·rw[ab1 (by omega),acy (by omega) (by omega)]
theorem sk2 {i k:Nat} (h:k<=i) (a:Nat):sg2 (i+1) (skip k a)=skip k (sg2 i a):=by
 by_cases ha:a<k
 ·rw[abX ha,acy (by omega) (by omega),acy (by omega) (by omega),abX ha]
 ·rw[ab1 ha];by_cases h1:a=i
  ·subst h1;rw[afC,afC,ab1 (by omega)]
  ·by_cases h2:a=i+1
   ·subst h2;rw[afD,afD,ab1 (by omega)]
   ·rw[acy (by omega) (by omega),acy h1 h2,ab1 ha]
theorem sk3 {i k:Nat} (h:i+1<k) (a:Nat):sg2 i (skip k a)=skip k (sg2 i a):=by
 by_cases ha:a<k
 ·rw[abX ha];by_cases h1:a=i
  ·subst h1;rw[afC,abX (by omega)]
  ·by_cases h2:a=i+1
   ·subst h2;rw[afD,abX (by omega)]
   ·rw[acy h1 h2,abX ha]
 ·rw[ab1 ha,acy (by omega) (by omega),acy (by omega) (by omega),ab1 ha]
def aae (F:Nat->Nat->Rat) (i:Nat):Nat->Nat->Rat:=λa b=>F (skip i a) (b+1)
def aty:Nat->(Nat->Nat->Rat)->Rat
 | 0,_=>1
 | n+1,F=>apV (λi=>sgn i*F i 0*aty n (aae F i)) (n+1)
theorem aag:∀{n:Nat} {F G:Nat->Nat->Rat},(∀i j,i<n->j<n->F i j=G i j)->aty n F=aty n G
 | 0,_,_,_=>rfl
 | n+1,F,G,h=>by
  unfold aty;refine uv λi hi=>?_
  rw[h i 0 hi (by omega),aag (F:=aae F i) (G:=aae G i) λa b ha hb=>?_];unfold aae;exact h _ _ (by unfold skip;split<;>omega) (by omega)
def setRow (F:Nat->Nat->Rat) (r:Nat) (v:Nat->Rat):Nat->Nat->Rat:=λi=>if i=r then v else F i
theorem ac9 {F:Nat->Nat->Rat} {r i:Nat} {v:Nat->Rat} (h:i≠r):aae (setRow F r v) i=setRow (aae F i) (if r<i then r else r-1) (λj=>v (j+1)):=by
 funext a b;unfold aae setRow;by_cases hr:r<i
 ·rw[aV hr];by_cases e:a=r
  ·subst e;rw[abX hr,aV rfl,aV rfl]
  ·have:skip i a≠r:=by unfold skip;split<;>omega
   rw[aI this,aI e]
 ·rw[aI hr];by_cases e:a=r-1
  ·have:skip i a=r:=by unfold skip;split<;>omega
   rw[aV this,aV e]
  ·have:skip i a≠r:=by unfold skip;split<;>omega
   rw[aI this,aI e]
theorem acW {F:Nat->Nat->Rat} {r:Nat} {v:Nat->Rat}:aae (setRow F r v) r=aae F r:=by
 funext a b;unfold aae setRow;have:skip r a≠r:=by unfold skip;split<;>omega
 rw[aI this]
theorem acZ:∀{n r:Nat} {F:Nat->Nat->Rat} {u v:Nat->Rat} {k:Rat},r<n->aty n (setRow F r λj=>u j+k*v j)=aty n (setRow F r u)+k*aty n (setRow F r v)
 | n+1,r,F,u,v,k,hr=>by
  unfold aty;rw[<-abC,<-acw];refine uv λi hi=>?_
  by_cases e:i=r
  ·subst e;rw[acW,acW,acW];unfold setRow;rw[aV rfl,aV rfl,aV rfl];grind
  ·rw[ac9 e,ac9 e,ac9 e];have ih:=acZ (n:=n) (r:=if r<i then r else r-1) (F:=aae F i) (u:=λj=>u (j+1)) (v:=λj=>v (j+1)) (k:=k) (by split<;>omega);rw[ih];have h0:∀w:Nat->Rat,setRow F r w i 0=F i 0:=λw=>by unfold setRow;rw[aI e]
   rw[h0,h0,h0];grind
theorem afc (f:Nat->Rat) (i:Nat):∀n,i+1<n->apV (λk=>f (if k=i then i+1 else if k=i+1 then i else k)) n=apV f n
 | n+1,h=>by
  by_cases e:n=i+1
  ·subst e;rw[apV,apV,apV,apV,aV rfl,aI (by omega),aV rfl];rw[uv (n:=i) (g:=f) λk hk=>by rw[aI (by omega),aI (by omega)]];grind
  ·rw[apV,apV,afc f i n (by omega),aI (by omega),aI (by omega)]
theorem acL:∀{n i:Nat} {F:Nat->Nat->Rat},i+1<n->aty n (dk F i (i+1)) = -aty n F
 | n+1,i,F,hi=>by
  have hs:∀k,k<n+1->sgn k*dk F i (i+1) k 0*aty n (aae (dk F i (i+1)) k) = -1*(λk=>sgn k*F k 0*aty n (aae F k)) (if k=i then i+1 else if k=i+1 then i else k):=by
   intro k hk;by_cases e1:k=i
   ·rw[aV e1];subst e1;have m:aae (dk F k (k+1)) k=aae F (k+1):=by
     funext a b;unfold aae;rw[acK,sk0]
    have e0:dk F k (k+1) k 0=F (k+1) 0:=by unfold dk;rw[aV rfl]
    show sgn k*dk F k (k+1) k 0*aty n (aae (dk F k (k+1)) k) = -1*(sgn (k+1)*F (k+1) 0*aty n (aae F (k+1)))
    rw[m,e0,afb];grind
   ·rw[aI e1];by_cases e2:k=i+1
    ·rw[aV e2];subst e2;have m:aae (dk F i (i+1)) (i+1)=aae F i:=by
      funext a b;unfold aae;rw[acK,sk1]
     have e0:dk F i (i+1) (i+1) 0=F i 0:=by unfold dk;rw[aI (by omega),aV rfl]
     show sgn (i+1)*dk F i (i+1) (i+1) 0*aty n (aae (dk F i (i+1)) (i+1)) = -1*(sgn i*F i 0*aty n (aae F i))
     rw[m,e0,afb];grind
    ·rw[aI e2];have e0:dk F i (i+1) k 0=F k 0:=by unfold dk;rw[aI e1,aI e2]
     show sgn k*dk F i (i+1) k 0*aty n (aae (dk F i (i+1)) k) = -1*(sgn k*F k 0*aty n (aae F k))
     rw[e0];rcases cM k i with h | h
     ·have m:aae (dk F i (i+1)) k=dk (aae F k) (i-1) (i-1+1):=by
       funext a b;unfold aae;rw[acK,acK];show F (sg2 i (skip k a)) (b+1)=F (skip k (sg2 (i-1) a)) (b+1);rw[show i=i-1+1 by omega,sk2 (by omega),qZ]
      rw[m,acL (by omega)];grind
     ·have m:aae (dk F i (i+1)) k=dk (aae F k) i (i+1):=by
       funext a b;unfold aae;rw[acK,acK];show F (sg2 i (skip k a)) (b+1)=F (skip k (sg2 i a)) (b+1);rw[sk3 (by omega)]
      rw[m,acL (by omega)];grind
  unfold aty;rw[uv hs,abC,afc (λk=>sgn k*F k 0*aty n (aae F k)) i (n+1) hi];grind
theorem swap_swap (F:Nat->Nat->Rat) {a b:Nat} (h:a+1<b):dk F a b=dk (dk (dk F a (a+1)) (a+1) b) a (a+1):=by
 funext i;unfold dk;by_cases h1:i=a
 ·subst h1;rw[aV rfl,aV rfl,aV rfl,aI (by omega),aI (by omega)]
 ·rw[aI h1,aI h1];by_cases h2:i=a+1
  ·subst h2;rw[aI (by omega),aV rfl,aI (by omega),aI (by omega),aV rfl]
  ·rw[aI h2,aI h2];by_cases h3:i=b
   ·rw[aV h3,aV h3,aI (by omega),aV rfl]
   ·rw[aI h3,aI h3,aI h1,aI h2]
theorem ada {n:Nat}:∀{d a b:Nat} {F:Nat->Nat->Rat},b=a+1+d->b<n->aty n (dk F a b) = -aty n F
 | 0,a,b,F,h,hb=>by subst h;exact acL (by omega)
 | d+1,a,b,F,h,hb=>by rw[swap_swap F (show a+1<b by omega),acL (by omega),ada (d:=d) (by omega) hb,acL (by omega)];grind
theorem acf {n a b:Nat} {F:Nat->Nat->Rat} (ha:a<n) (hb:b<n) (iL:a≠b):aty n (dk F a b) = -aty n F:=by
 rcases cM a b with h | h
 ·exact ada (d:=b-a-1) (by omega) hb
 ·have e:dk F a b=dk F b a:=by
   funext i;unfold dk;by_cases h1:i=a
   ·rw[aV h1,aI (by omega),aV h1]
   ·rw[aI h1];by_cases h2:i=b
    ·rw[aV h2,aV h2]
    ·rw[aI h2,aI h2,aI h1]
  rw[e];exact ada (d:=a-b-1) (by omega) ha
theorem agL {n a b:Nat} {F:Nat->Nat->Rat} (ha:a<n) (hb:b<n) (iL:a≠b) (h:F a=F b):aty n F=0:=by
 have h1:=acf (F:=F) ha hb iL;have e:dk F a b=F:=by
  funext i;unfold dk;by_cases h1:i=a
  ·rw[aV h1,h1,h]
  ·rw[aI h1];by_cases h2:i=b
   ·rw[aV h2,h2,h]
   ·rw[aI h2]
 rw[e] at h1;grind
theorem ad5 {n a b:Nat} {F:Nat->Nat->Rat} (ha:a<n) (hb:b<n) (iL:a≠b) (k:Rat):aty n (setRow F a λj=>F a j+k*F b j)=aty n F:=by
 rw[acZ ha];have e1:setRow F a (λj=>F a j)=F:=by
  funext i;unfold setRow;by_cases h1:i=a
  ·rw[aV h1,h1]
  ·rw[aI h1]
 have e2:aty n (setRow F a λj=>F b j)=0:=agL ha hb iL (by unfold setRow;rw[aV rfl,aI (λe=>iL e.symm)]);rw[e1,e2];grind
theorem acH {n r:Nat} {F:Nat->Nat->Rat} (hr:r<n) (k:Rat):aty n (wa F r k)=k*aty n F:=by
 have e:wa F r k=setRow F r (λj=>0+k*F r j):=by
  funext i j;unfold wa setRow;by_cases h1:i=r
  ·rw[aV h1,aV h1,h1];grind
  ·rw[aI h1,aI h1]
 have e1:setRow F r (λj=>F r j)=F:=by
  funext i;unfold setRow;by_cases h1:i=r
  ·rw[aV h1,h1]
  ·rw[aI h1]
 have h0:aty n (setRow F r λ_=>0)=0:=by
  have:=acZ (F:=F) (u:=λ_=>0) (v:=λ_=>0) (k:=1) hr;have e2:(λj:Nat=>(λ_=>(0:Rat)) j+1*(λ_=>(0:Rat)) j)=λ_=>0:=by funext j;show(0:Rat)+1*0=0;grind
  rw[e2] at this;grind
 rw[e,acZ hr,h0,e1];grind
structure acM (n:Nat) (D:(Nat->Nat->Rat)->Rat):Prop where
 congr:∀F G,(∀i j,i<n->j<n->F i j=G i j)->D F=D G
 swap:∀F a b,a<n->b<n->a≠b->D (dk F a b) = -D F
 scale:∀F r k,r<n->D (wa F r k)=k*D F
 add:∀F a b k,a<n->b<n->a≠b->D (setRow F a λj=>F a j+k*F b j)=D F
theorem acg (n:Nat):acM n (aty n):=⟨λ_ _ h=>aag h,λ_ _ _ ha hb iL=>acf ha hb iL,λ_ _ k hr=>acH hr k,λ_ _ _ k ha hb iL=>ad5 ha hb iL k⟩
def ack (F:Nat->Nat->Rat) (r c t:Nat):Nat->Nat->Rat:=λi=>if i≠r/\i<t then λj=>F i j-F i c*F r j else F i
theorem acM.ack {n:Nat} {D:(Nat->Nat->Rat)->Rat} (h:acM n D) (F:Nat->Nat->Rat) {r:Nat} (c:Nat) (hr:r<n):∀t,t<=n->D (AM.ack F r c t)=D F
 | 0,_=>GI D (by funext i;unfold AM.ack;rw[aI (by omega)])
 | t+1,ht=>by
  rw[<-acM.ack h F c hr t (by omega)];by_cases e:t=r
  ·refine GI D ?_;funext i;unfold AM.ack;by_cases h1:i≠r/\i<t
   ·rw[aV h1,aV ⟨h1.1,by omega⟩]
   ·rw[aI h1,aI (λh2=>h1 ⟨h2.1,by omega⟩)]
  ·have hs:AM.ack F r c (t+1)=setRow (AM.ack F r c t) t λj=>AM.ack F r c t t j + -(F t c)*AM.ack F r c t r j:=by
    funext i;unfold setRow;by_cases h1:i=t
    ·subst h1;rw[aV rfl];funext j;unfold AM.ack;rw[aV ⟨e,by omega⟩,aI (by omega),aI (λh2=>h2.1 rfl)];grind
    ·rw[aI h1];unfold AM.ack;by_cases h2:i≠r/\i<t
     ·rw[aV h2,aV ⟨h2.1,by omega⟩]
     ·rw[aI h2,aI (λh3=>h2 ⟨h3.1,by omega⟩)]
   rw[hs];exact h.add _ t r _ (by omega) hr e
theorem acM.elim {n:Nat} {D:(Nat->Nat->Rat)->Rat} (h:acM n D) (F:Nat->Nat->Rat) {r:Nat} (c:Nat) (hr:r<n):D (abA F r c)=D F:=by
 rw[<-h.ack F c hr n (bF n)];refine h.congr _ _ λi j hi _=>?_;unfold AM.ack abA;by_cases e:i=r
 ·rw[aV e,aI (λh=>h.1 e)]
 ·rw[aI e,aV ⟨e,hi⟩]
theorem ade (n:Nat) (F:Nat->Nat->Rat):∀c,∃k:Rat,k≠0/\∀D,acM n D->D F=k*D (rr n F c).1
 | 0=>⟨1,by decide,λD _=>by show D F=1*D F;grind⟩
 | c+1=>by
  obtain⟨k,hk,h⟩:=ade n F c;have hlen:=acG n F c;unfold rr;generalize rr n F c=S at *
  unfold abv;have hp1:=acn S.1 c (n-S.2.length) S.2.length;have hp2:= @acx S.1 c (n-S.2.length) S.2.length;generalize aA5 S.1 c S.2.length (n-S.2.length)=p at *
  split
  ·rename_i hp;have hr:S.2.length<n:=by omega
   have ay:dk S.1 S.2.length p S.2.length c≠0:=by unfold dk;rw[aV rfl];exact hp2 (by omega)
   have hsw:∃s:Rat,s≠0/\∀D,acM n D->D S.1=s*D (dk S.1 S.2.length p):=by
    by_cases e:S.2.length=p
    ·refine⟨1,by decide,λD _=>?_⟩;have:dk S.1 S.2.length p=S.1:=by
      funext i;unfold dk;by_cases h1:i=S.2.length
      ·rw[aV h1,h1,e]
      ·rw[aI h1,aI (by omega)]
     rw[this];grind
    ·exact⟨-1,by decide,λD hD=>by rw[hD.swap _ _ _ hr hp e];grind⟩
   obtain⟨s,hs,h2⟩:=hsw;generalize dk S.1 S.2.length p=G at *
   refine⟨k*(s*G S.2.length c),λe=>?_,λD hD=>?_⟩
   ·rcases G5.1 e with e | e
    ·exact hk e
    ·rcases G5.1 e with e | e
     ·exact hs e
     ·exact ay e
   ·rw[h D hD,h2 D hD];show _=_*D (abA (wa G S.2.length (1/G S.2.length c)) S.2.length c);rw[hD.elim _ c hr,hD.scale _ _ _ hr];have:=KZ _ ay;rw[GX,Hf];grind
  ·exact⟨k,hk,h⟩
theorem acs.full {n:Nat} {F:Nat->Nat->Rat} {l:List Nat} (h:acs n n F l) (hl:l.length=n):∀k,k<n->l.getD k 0=k:=by
 have h1:∀k,k<n->k<=l.getD k 0:=λk=>by
  induction k with
  | zero=>intro _;exact fi _
  | succ k ih=>intro hk;have:=ih (by omega);have:=h.inc k (k+1) (by omega) (by omega);omega
 have h2:∀d k,k+d+1=n->l.getD k 0+d+1<=n:=λd=>by
  induction d with
  | zero=>intro k hk;have:=h.lt k (by omega);omega
  | succ d ih=>intro k hk;have:=ih (k+1) (by omega);have:=h.inc k (k+1) (by omega) (by omega);omega
 intro k hk;have:=h1 k hk;have:=h2 (n-k-1) k (by omega);omega
theorem ach:∀n,aty n iP=1
 | 0=>rfl
 | n+1=>by
  unfold aty;rw[ace (a:=0) (by omega) λi _ hi=>by have:iP i 0=0:=aI hi;rw[this];grind]
  have e:aae iP 0=iP:=by
   funext a b;unfold aae iP;rw[ab1 (by omega)];by_cases h:a=b
   ·rw[aV h,aV (by omega)]
   ·rw[aI h,aI (by omega)]
  have e2:iP 0 0=1:=rfl;rw[e,ach n,e2];show sgn 0*1*1=1;unfold sgn;rw[aV rfl];grind
theorem acM.low {n:Nat} {D:(Nat->Nat->Rat)->Rat} (h:acM n D) {F:Nat->Nat->Rat} {r:Nat} (hr:r<n) (hz:∀j,j<n->F r j=0):D F=0:=by
 have:=h.scale F r 0 hr;rw[h.congr (wa F r 0) F λi j _ hj=>by
  unfold wa;by_cases e:i=r
  ·rw[aV e,e,hz j hj];grind
  ·rw[aI e]] at this
 grind
theorem afE {n:Nat} {F:Nat->Nat->Rat} (h:(rr n F n).2.length=n):∀i j,i<n->j<n->(rr n F n).1 i j=iP i j:=λi j hi hj=>by have hr:=aca n F n;have hl:=hr.full h;have:=hr.one j i (by omega) hi;rw[hl j hj] at this;rw[this];rfl
theorem afd {n:Nat} {F:Nat->Nat->Rat}:aty n F≠0↔(rr n F n).2.length=n:=by
 obtain⟨k,hk,h⟩:=ade n F n;have hd:=h _ (acg n);constructor
 ·intro ay;refine Gc λaU=>ay ?_;have hle:=acG n F n;have hr:=aca n F n;rw[hd,(acg n).low (r:=(rr n F n).2.length) (by omega) λj hj=>hr.low _ j (bF _) (by omega) hj];grind
 ·intro hl e;rw[hd,(acg n).congr _ _ (afE hl),ach] at e;grind
theorem aeu {n:Nat} {D:(Nat->Nat->Rat)->Rat} (hD:acM n D) (F:Nat->Nat->Rat):D F=aty n F*D iP:=by
 obtain⟨k,hk,h⟩:=ade n F n;rw[h D hD,h _ (acg n)];by_cases hl:(rr n F n).2.length=n
 ·rw[hD.congr _ _ (afE hl),(acg n).congr _ _ (afE hl),ach];grind
 ·have hle:=acG n F n;have hr:=aca n F n;have hz:∀j,j<n->(rr n F n).1 (rr n F n).2.length j=0:=λj hj=>hr.low _ j (bF _) (by omega) hj;rw[hD.low (by omega) hz,(acg n).low (by omega) hz];grind
theorem abt (F G:Nat->Nat->Rat) (n i j:Nat):dw F G n i j=apV (λk=>F i k*G k j) n:=(tL F G i j n).symm
theorem agf {n a:Nat} {F G:Nat->Nat->Rat} {v:Nat->Rat}:dw (setRow F a v) G n=setRow (dw F G n) a λj=>apV (λk=>v k*G k j) n:=by
 funext i j;rw[abt];unfold setRow;by_cases e:i=a
 ·rw[aV e,aV e]
 ·rw[aI e,aI e,abt]
theorem aeQ (n:Nat) (A B:Nat->Nat->Rat):aty n (dw A B n)=aty n A*aty n B:=by
 have hD:acM n λA=>aty n (dw A B n):=by
  refine⟨λF G h=>aag λi j hi hj=>?_,λF a b ha hb iL=>?_,λF r k hr=>?_,λF a b k ha hb iL=>?_⟩
  ·rw[abt,abt];exact uv λk hk=>by rw[h i k hi hk]
  ·have e:dw (dk F a b) B n=dk (dw F B n) a b:=by
    funext i j;rw[abt];unfold dk;by_cases h1:i=a
    ·rw[aV h1,aV h1,abt]
    ·rw[aI h1,aI h1];by_cases h2:i=b
     ·rw[aV h2,aV h2,abt]
     ·rw[aI h2,aI h2,abt]
   rw[e];exact acf ha hb iL
  ·have e:dw (wa F r k) B n=wa (dw F B n) r k:=by
    funext i j;rw[abt];unfold wa;by_cases h1:i=r
    ·rw[aV h1,abt,CT,<-abC];exact uv λt _=>by rw[aV h1];grind
    ·rw[aI h1,abt];exact uv λt _=>by rw[aI h1]
   rw[e];exact acH hr k
  ·rw[agf];have e:(λj=>apV (λt=>(F a t+k*F b t)*B t j) n)=λj=>dw F B n a j+k*dw F B n b j:=by
    funext j;rw[abt,abt,<-abC,<-acw];exact uv λt _=>by grind
   rw[e];exact ad5 ha hb iL k
 have h:=aeu hD A;have e:aty n (dw iP B n)=aty n B:=aag λi j hi hj=>Au B i j hi hj;rw[e] at h;exact h
def aby (F:Nat->Nat->Rat):Nat->Nat->Rat:=λi j=>F j i
theorem ad7 (F:Nat->Nat->Rat) (a b i j:Nat):dk F a b i j=if i=a then F b j else if i=b then F a j else F i j:=by
 unfold dk;by_cases h:i=a
 ·rw[aV h,aV h]
 ·rw[aI h,aI h];by_cases h2:i=b
  ·rw[aV h2,aV h2]
  ·rw[aI h2,aI h2]
theorem ahF (a b i j:Nat):dk iP a b i j=dk iP a b j i:=by rw[ad7,ad7];simp only[iP];grind
theorem agM (r:Nat) (k:Rat) (i j:Nat):wa iP r k i j=wa iP r k j i:=by
 by_cases h:i=j
 ·subst h;rfl
 ·have e1:iP i j=0:=aI h;have e2:iP j i=0:=aI λe=>h e.symm;simp only[wa,e1,e2];grind
theorem aeR (F:Nat->Nat->Rat) (a:Nat) (v:Nat->Rat) (i j:Nat):setRow F a v i j=if i=a then v j else F i j:=by
 unfold setRow;by_cases h:i=a
 ·rw[aV h,aV h]
 ·rw[aI h,aI h]
theorem aiv (a b:Nat) (k:Rat) (i j:Nat):setRow iP a (λj=>iP a j+k*iP b j) i j=setRow iP b (λj=>iP b j+k*iP a j) j i:=by rw[aeR,aeR];simp only[iP];grind
theorem ahG (n:Nat) (A:Nat->Nat->Rat):aty n (aby A)=aty n A:=by
 have key:∀(op:(Nat->Nat->Rat)->Nat->Nat->Rat) (F:Nat->Nat->Rat),(∀i j,i<n->j<n->op F i j=apV (λt=>op iP i t*F t j) n)->aty n (aby (op F))=aty n (aby (op iP))*aty n (aby F):=λop F h=>by rw[CT,<-aeQ];refine aag λi j hi hj=>?_;show op F j i=_;rw[h j i hj hi,abt];exact uv λt _=>by show op iP j t*F t i=F t i*op iP j t;grind
 have aeB:∀{F:Nat->Nat->Rat} {i j:Nat},i<n->apV (λt=>iP i t*F t j) n=F i j:=fun {F i j} hi=>by
  rw[ace (a:=i) hi λt _ ay=>by have:iP i t=0:=aI λe=>ay e.symm;rw[this];grind]
  have:iP i i=1:=aV rfl;rw[this];grind
 have hD:acM n λA=>aty n (aby A):=by
  refine⟨λF G h=>aag λi j hi hj=>h j i hj hi,λF a b ha hb iL=>?_,λF r k hr=>?_,λF a b k ha hb iL=>?_⟩
  ·show aty n (aby (dk F a b)) = -aty n (aby F);rw[key (λF=>dk F a b) F λi j hi hj=>?_]
   ·have e:aty n (aby (dk iP a b)) = -1:=by
     have:aty n (aby (dk iP a b))=aty n (dk iP a b):=aag λi j hi hj=>by exact ahF a b j i
     rw[this,acf ha hb iL,ach]
    show aty n (aby (dk iP a b))*_=_;rw[e];grind
   ·show dk F a b i j=apV (λt=>dk iP a b i t*F t j) n;unfold dk;by_cases h1:i=a
    ·rw[aV h1,aV h1,aeB hb]
    ·rw[aI h1,aI h1];by_cases h2:i=b
     ·rw[aV h2,aV h2,aeB ha]
     ·rw[aI h2,aI h2,aeB hi]
  ·show aty n (aby (wa F r k))=k*aty n (aby F);rw[key (λF=>wa F r k) F λi j hi hj=>?_]
   ·have e:aty n (aby (wa iP r k))=k:=by
     have:aty n (aby (wa iP r k))=aty n (wa iP r k):=aag λi j hi hj=>by exact agM r k j i
     rw[this,acH hr,ach];grind
    show aty n (aby (wa iP r k))*_=_;rw[e]
   ·show wa F r k i j=apV (λt=>wa iP r k i t*F t j) n;unfold wa;by_cases h1:i=r
    ·rw[aV h1];have:apV (λt=>(if i=r then iP i t*k else iP i t)*F t j) n=k*apV (λt=>iP i t*F t j) n:=by
      rw[<-abC];exact uv λt _=>by rw[aV h1];grind
     rw[this,aeB hi];grind
    ·rw[aI h1];have:apV (λt=>(if i=r then iP i t*k else iP i t)*F t j) n=apV (λt=>iP i t*F t j) n:=uv λt _=>by rw[aI h1]
     rw[this,aeB hi]
  ·show aty n (aby (setRow F a λj=>F a j+k*F b j))=aty n (aby F);rw[key (λF=>setRow F a λj=>F a j+k*F b j) F λi j hi hj=>?_]
   ·have e:aty n (aby (setRow iP a λj=>iP a j+k*iP b j))=1:=by
     have:aty n (aby (setRow iP a λj=>iP a j+k*iP b j))=aty n (setRow iP b λj=>iP b j+k*iP a j):=aag λi j hi hj=>by exact aiv a b k j i
     rw[this,ad5 hb ha (λe=>iL e.symm),ach]
    show aty n (aby (setRow iP a λj=>iP a j+k*iP b j))*_=_;rw[e];grind
   ·show setRow F a (λj=>F a j+k*F b j) i j=apV (λt=>setRow iP a (λj=>iP a j+k*iP b j) i t*F t j) n;unfold setRow;by_cases h1:i=a
    ·rw[aV h1];have:apV (λt=>(if i=a then λj=>iP a j+k*iP b j else iP i) t*F t j) n=apV (λt=>iP a t*F t j) n+k*apV (λt=>iP b t*F t j) n:=by
      rw[<-abC,<-acw];exact uv λt _=>by rw[aV h1];grind
     rw[this,aeB ha,aeB hb]
    ·rw[aI h1];have:apV (λt=>(if i=a then λj=>iP a j+k*iP b j else iP i) t*F t j) n=apV (λt=>iP i t*F t j) n:=uv λt _=>by rw[aI h1]
     rw[this,aeB hi]
 have h:=aeu hD A;have e:aty n (aby iP)=1:=by
  have:aty n (aby iP)=aty n iP:=aag λi j _ _=>by
   show iP j i=iP i j;unfold iP;by_cases h:i=j
   ·rw[aV h,aV h.symm]
   ·rw[aI h,aI λe=>h e.symm]
  rw[this,ach]
 have h:aty n (aby A)=aty n A*aty n (aby iP):=h;rw[e] at h;grind
structure Holds {α:Type} (n m:Nat) (out:List Nat) (aqn:List (List α)) (F:Nat->Nat->α):Prop where
 len:out.length=n
 lt:∀i,i<n->out.getD i 0<aqn.length
 row:∀i,i<n->aqn.getD (out.getD i 0) []=aA m (F i)
 inj:∀i j,i<n->j<n->out.getD i 0=out.getD j 0->i=j
section
variable {α:Type} {n m:Nat} {out:List Nat} {aqn:List (List α)} {F G:Nat->Nat->α}
theorem Holds.congr (h:Holds n m out aqn F) (e:∀i j,i<n->j<m->F i j=G i j):Holds n m out aqn G:=⟨h.len,h.lt,λi hi=>(h.row i hi).trans (bE λj hj=>e i j hi hj),h.inj⟩
theorem Holds.cell (d:α) (h:Holds n m out aqn F) {i j:Nat} (hi:i<n) (hj:j<m):(aqn.getD (out.getD i 0) []).getD j d=F i j:=by rw[h.row i hi,fW hj]
theorem Holds.rowLen (h:Holds n m out aqn F) {i:Nat} (hi:i<n):(aqn.getD (out.getD i 0) []).length=m:=by rw[h.row i hi,mX]
theorem Holds.set (h:Holds n m out aqn F) {r:Nat} (hr:r<n) {xs:List α} {f:Nat->α} (hx:xs=aA m f):Holds n m out (aqn.set (out.getD r 0) xs) (λi=>if i=r then f else F i):=
 ⟨h.len,λi hi=>by rw[tQ];exact h.lt i hi,λi hi=>by
  rw[b8 _ _ _ _ _ (h.lt r hr)];by_cases e:i=r
  ·subst e;rw[aV rfl,aV rfl,hx]
  ·rw[aI λe'=>e (h.inj _ _ hi hr e'),aI e];exact h.row i hi,h.inj⟩
theorem Holds.amw (h:Holds n m out aqn F) {r c:Nat} (hr:r<n) (hc:c<m) (x:α):Holds n m out (aqn.set (out.getD r 0) ((aqn.getD (out.getD r 0) []).set c x)) (λi j=>if i=r/\j=c then x else F i j):=
 (h.set hr (xs:=(aqn.getD (out.getD r 0) []).set c x) (f:=λj=>if j=c then x else F r j) (by rw[h.row r hr];exact mY hc)).congr λi j _ _=>by
  by_cases e:i=r
  ·subst e;rw[aV rfl];by_cases e2:j=c
   ·rw[aV e2,aV ⟨rfl,e2⟩]
   ·rw[aI e2,aI λk=>e2 k.2]
  ·rw[aI e,aI λk=>e k.1]
theorem Holds.swap (h:Holds n m out aqn F) {a b:Nat} (ha:a<n) (hb:b<n):Holds n m ((out.set a (out.getD b 0)).set b (out.getD a 0)) aqn (λi=>if i=a then F b else if i=b then F a else F i):=by
 have la:a<out.length:=by rw[h.len];exact ha
 have lb:b<(out.set a (out.getD b 0)).length:=by rw[tQ,h.len];exact hb
 have e:∀i,((out.set a (out.getD b 0)).set b (out.getD a 0)).getD i 0=out.getD (if i=b then a else if i=a then b else i) 0:=λi=>by
  rw[b8 _ _ _ _ _ lb];by_cases e1:i=b
  ·rw[aV e1,aV e1]
  ·rw[aI e1,aI e1,b8 _ _ _ _ _ la];by_cases e2:i=a
   ·rw[aV e2,aV e2]
   ·rw[aI e2,aI e2]
 have lt:∀i,i<n->(if i=b then a else if i=a then b else i)<n:=λi hi=>by split;exact ha;split;exact hb;exact hi
 refine⟨by rw[tQ,tQ];exact h.len,λi hi=>by rw[e];exact h.lt _ (lt i hi),λi hi=>?_,λi j hi hj hij=>?_⟩
 ·rw[e,h.row _ (lt i hi)];show _=aA m (if i=a then F b else if i=b then F a else F i);by_cases e1:i=b
  ·rw[aV e1];by_cases e2:i=a
   ·rw[aV e2,<-e2,e1]
   ·rw[aI e2,aV e1]
  ·rw[aI e1];by_cases e2:i=a
   ·rw[aV e2,aV e2]
   ·rw[aI e2,aI e2,aI e1]
 ·rw[e,e] at hij;have:=h.inj _ _ (lt i hi) (lt j hj) hij;split at this<;>split at this<;>(try split at this)<;>(try split at this)<;>omega
end
section
variable {n m:Nat} {out:List Nat} {aqn:List (List Rat)} {F:Nat->Nat->Rat}
theorem Holds.rows (h:Holds n m out aqn F):out.map (λp=>aqn.getD p [])=aG n m F:=vt [] (by rw[yo];exact h.len) λi hi=>by rw[getD_map (by rw[h.len];exact hi) 0];exact h.row i hi
theorem Holds.init {M:List (List Rat)} (h:∀i,i<M.length->(M.getD i []).length=m):Holds M.length m (aA M.length λt=>if t<M.length then t+1 else 0) ([]::M) (el M):=
 ⟨mX _ _,λi hi=>by rw[fW hi,aV hi,yY];omega,λi hi=>by
  rw[fW hi,aV hi,C5];have:=ad3 (M.getD i []) 0;rw[h i hi] at this;exact this.symm,λi j hi hj e=>by
  rw[fW hi,fW hj,aV hi,aV hj] at e;omega⟩
end
def abY (M:List (List Rat)):Nat:=(M.getD 0 []).length
def ab2 (M:List (List Rat)):(Nat->Nat->Rat)×List Nat:=rr M.length (el M) (abY M)
def K5 (l:List Nat):List Int:=l.map Int.ofNat
theorem adq (l:List Nat):(K5 l).length=l.length:=yo ..
theorem afF {l:List Nat} {i:Nat} (h:i<l.length):(K5 l).getD i 0=((l.getD i 0:Nat):Int):=getD_map h 0 0
theorem ahH (l:List Nat) (x:Nat):K5 (l++[x])=K5 l++[(x:Int)]:=by unfold K5;rw[Hj];rfl
def aaf (M:List (List Rat)):List (List Rat):=aG (ab2 M).2.length (abY M) (ab2 M).1
def abp (M:List (List Rat)):List Int:=K5 (ab2 M).2
def acR (l:List Nat) (n:Nat):List Nat:=(List.range n).filter λc=> !decide (c∈l)
theorem agh (l:List Nat) (n:Nat):acR l (n+1)=if n∈l then acR l n else acR l n++[n]:=by
 unfold acR;rw[LH,List.filter_append];by_cases h:n∈l
 ·rw[aV h];simp[h]
 ·rw[aI h];simp[h]
def abo (F:Nat->Nat->Rat) (l:List Nat) (n k:Nat):List (List Rat):=(acR l k).map λc=>aA n (acm F l c)
theorem aeS (F:Nat->Nat->Rat) (l:List Nat) (n k:Nat):abo F l n (k+1)=if k∈l then abo F l n k else abo F l n k++[aA n (acm F l k)]:=by
 unfold abo;rw[agh];by_cases h:k∈l
 ·rw[aV h,aV h]
 ·rw[aI h,aI h];simp
def acN (l:List Nat) (f g:Nat->Rat):Nat->Nat->Rat
 | 0=>g
 | i+1=>λt=>if t=l.getD i 0 then f i else acN l f g i t
theorem aiw {l:List Nat} (hi:∀i j,i<j->j<l.length->l.getD i 0≠l.getD j 0) (f g:Nat->Rat) (t:Nat):acN l f g l.length t=if l.idxOf t<l.length then f (l.idxOf t) else g t:=by
 have key:∀k,k<=l.length->acN l f g k t=if l.idxOf t<k then f (l.idxOf t) else g t:=by
  intro k;induction k with
  | zero=>intro _;rw[aI (ia _)];rfl
  | succ k ih=>
   intro hk;show(if t=l.getD k 0 then f k else acN l f g k t)=_;by_cases e:t=l.getD k 0
   ·have hx:l.idxOf t=k:=by
     have hm:t∈l:=by rw[e];exact Ao (by omega) 0
     have h1:l.idxOf t<l.length:=LJ hm;have h2:=ado h1;rcases vv (l.idxOf t) k with h | h | h
     ·exact absurd (h2.trans e) (hi _ _ h (by omega))
     ·exact h
     ·exact absurd (e.symm.trans h2.symm) (hi _ _ h h1)
    rw[aV e,hx,aV (tS k)]
   ·rw[aI e,ih (by omega)];have ay:l.idxOf t≠k:=λh=>e (by
     have:=ado (l:=l) (t:=t) (by omega);rw[h] at this;exact this.symm)
    by_cases h:l.idxOf t<k
    ·rw[aV h,aV (by omega)]
    ·rw[aI h,aI (by omega)]
 exact key _ (bF _)
theorem aeV {F G:Nat->Nat->Rat} {c:Nat}:∀{k t:Nat},(∀i,t<=i->i<t+k->F i c=G i c)->aA5 F c t k=aA5 G c t k
 | 0,_,_=>rfl
 | k+1,t,h=>by unfold aA5;rw[h t (bF t) (by omega),aeV λi h1 h2=>h i (by omega) (by omega)]
theorem aed {n m:Nat} {F G:Nat->Nat->Rat} (h:∀i j,i<n->j<m->F i j=G i j):∀c,c<=m->(rr n F c).2=(rr n G c).2/\∀i j,i<n->j<m->(rr n F c).1 i j=(rr n G c).1 i j
 | 0,_=>⟨rfl,h⟩
 | c+1,hc=>by
  obtain⟨h1,h2⟩:=aed h c (by omega);show(abv n (rr n F c) c).2=(abv n (rr n G c) c).2/\∀i j,i<n->j<m->(abv n (rr n F c) c).1 i j=(abv n (rr n G c) c).1 i j;generalize rr n F c=S at *
  generalize rr n G c=T at *
  obtain⟨S1,S2⟩:=S;obtain⟨T1,T2⟩:=T;dsimp only at h1 h2;subst h1;have hp:aA5 S1 c S2.length (n-S2.length)=aA5 T1 c S2.length (n-S2.length):=aeV λi h3 h4=>h2 i c (by omega) (by omega);unfold abv;dsimp only;rw[hp];have hpg:=(acn T1 c (n-S2.length) S2.length).1;generalize aA5 T1 c S2.length (n-S2.length)=p at *
  by_cases hpn:p<n
  ·rw[aV hpn,aV hpn];have sw:∀i j,i<n->j<m->dk S1 S2.length p i j=dk T1 S2.length p i j:=λi j hi hj=>by
    unfold dk;by_cases e1:i=S2.length
    ·rw[aV e1,aV e1];exact h2 _ _ hpn hj
    ·rw[aI e1,aI e1];by_cases e2:i=p
     ·rw[aV e2,aV e2];exact h2 _ _ (by omega) hj
     ·rw[aI e2,aI e2];exact h2 _ _ hi hj
   have hr:S2.length<n:=by omega
   have ek:=sw S2.length c hr (by omega);generalize dk S1 S2.length p=A at *
   generalize dk T1 S2.length p=B at *
   rw[ek];have sc:∀i j,i<n->j<m->wa A S2.length (1/B S2.length c) i j=wa B S2.length (1/B S2.length c) i j:=λi j hi hj=>by unfold wa;rw[sw i j hi hj]
   refine⟨rfl,λi j hi hj=>?_⟩;show abA (wa A S2.length (1/B S2.length c)) S2.length c i j=abA (wa B S2.length (1/B S2.length c)) S2.length c i j;unfold abA;rw[sc i j hi hj,sc i c hi (by omega),sc _ j hr hj]
  ·rw[aI hpn,aI hpn];exact⟨rfl,h2⟩
theorem adf (n:Nat) (F:Nat->Nat->Rat) (c:Nat):∀d,∃l2,(rr n F (c+d)).2=(rr n F c).2++l2/\∀x∈l2,c<=x
 | 0=>⟨[],by simp,λ_ h=>by cases h⟩
 | d+1=>by
  obtain⟨l2,h1,h2⟩:=adf n F c d;show ∃l2,(abv n (rr n F (c+d)) (c+d)).2=_/\_;unfold abv;split
  ·exact⟨l2++[c+d],by show _++_=_;rw[h1,vw],λx hx=>by
    rcases Av.1 hx with hx | hx
    ·exact h2 x hx
    ·have:=nS.1 hx;omega⟩
  ·exact⟨l2,h1,h2⟩
theorem aj7 {n c:Nat} {F:Nat->Nat->Rat} {x:Nat} (h:x∈(rr n F c).2):x<c:=by obtain⟨k,hk,rfl⟩:=ahx h 0;exact(aca n F c).lt k hk
theorem acS (f:Nat->Rat) (n:Nat):∀d,apV f (n+d)=apV f n+apV (λj=>f (n+j)) d
 | 0=>by show apV f n=_+0;grind
 | d+1=>by
  show apV f (n+d)+f (n+d)=_+(apV (λj=>f (n+j)) d+f (n+d))
  rw[acS f n d];grind
def abB (m:Nat) (A B:Nat->Nat->Rat):Nat->Nat->Rat:=λi j=>if j<m then A i j else B i (j-m)
theorem agj {m:Nat} {A B:Nat->Nat->Rat} {i j:Nat} (h:j<m):abB m A B i j=A i j:=aV h
theorem aiF {m:Nat} {A B:Nat->Nat->Rat} {i j:Nat}:abB m A B i (m+j)=B i j:=by unfold abB;rw[aI (by omega),show m+j-m=j by omega]
theorem afi (m d:Nat) (A B:Nat->Nat->Rat) (i:Nat) (x:Nat->Rat):apV (λj=>abB m A B i j*x j) (m+d)=apV (λj=>A i j*x j) m+apV (λj=>B i j*x (m+j)) d:=by rw[acS,uv (g:=λj=>A i j*x j) λj hj=>by rw[agj hj],uv (n:=d) (g:=λj=>B i j*x (m+j)) λj _=>by rw[aiF]]
theorem agk (n m:Nat) (A B:Nat->Nat->Rat):(rr n (abB m A B) m).2=(rr n A m).2/\∀i j,i<n->j<m->(rr n (abB m A B) m).1 i j=(rr n A m).1 i j:=aed (λ_ _ _ hj=>agj hj) m (bF m)
theorem aef (f:Nat->Rat) {n i:Nat} (h:i<n):apV (λj=>iP i j*f j) n=f i:=by rw[ace (a:=i) h λt _ ay=>by unfold iP;rw[aI (λe=>ay e.symm)];grind];unfold iP;rw[aV rfl];grind
theorem aeX (f:Nat->Rat) {n i:Nat} (h:i<n):apV (λj=>f j*iP j i) n=f i:=by rw[ace (a:=i) h λt _ ay=>by unfold iP;rw[aI ay];grind];unfold iP;rw[aV rfl];grind
theorem afN {n:Nat} {F:Nat->Nat->Rat} (h:∀y,Ker n n F y->∀j,j<n->y j=0):(rr n F n).2.length=n:=by
 have hr:=aca n F n;have bB:∀j,j<n->∃k,k<(rr n F n).2.length/\(rr n F n).2.getD k 0=j:=λj hj=>by refine Gc λhn=>?_;have h1:=h _ ((aeM n).1 (hr.col hj λk hk e=>hn ⟨k,hk,e⟩)) j hj;unfold acm at h1;rw[aV rfl] at h1;exact absurd h1 (by decide)
 have e:(rr n F n).2=List.range n:=age hr.inc (λk k' hk sF=>by
  rw[Gp] at sF;rw[au,au,Ha (by omega),Ha sF];exact hk) (λk hk=>⟨(rr n F n).2.getD k 0,by rw[Gp];exact hr.lt k hk,by rw[au (l:=List.range n),Ha (hr.lt k hk)];rfl⟩) λk hk=>by
  rw[Gp] at hk;obtain⟨k',h1,h2⟩:=bB k hk;exact⟨k',h1,by rw[h2,au,Ha hk];rfl⟩
 rw[e,Gp]
theorem acz (n:Nat) (A:Nat->Nat->Rat):(rr n (abB n A iP) (n+n)).2.length=n:=by
 have hr:=aca n (abB n A iP) (n+n);have hk:∀x,Ker n (n+n) (rr n (abB n A iP) (n+n)).1 x->Ker n (n+n) (abB n A iP) x:=λx=>(aeM (n+n)).1;refine Gc λaU=>?_;have hlen:=hr.len;have hl:(rr n (abB n A iP) (n+n)).2.length<n:=by omega
 generalize (rr n (abB n A iP) (n+n)).1=R at *
 generalize (rr n (abB n A iP) (n+n)).2=l at *
 have h0:aty n (λi j=>R i (n+j))=0:=(acg n).low (r:=l.length) hl λj hj=>hr.low _ _ (bF _) hl (by omega);refine afd.2 (afN λy hy j hj=>?_) h0;have h1:=hk (λt=>if t<n then 0 else y (t-n)) λi hi=>by rw[acS,acj (n:=n) λt ht=>by (try dsimp only);rw[aV ht];grind,uv (g:=λj=>R i (n+j)*y j) λt _=>by (try dsimp only);rw[aI (by omega),show n+t-n=t by omega],hy i hi];grind
 have h2:=h1 j hj;rw[afi,acj (n:=n) λt ht=>by (try dsimp only);rw[aV ht];grind,uv (g:=λt=>iP j t*y t) λt _=>by (try dsimp only);rw[aI (by omega),show n+t-n=t by omega],aef y hj] at h2;grind
theorem aeD {l l2:List Nat} {k:Nat} (h:k<l.length):(l++l2).getD k 0=l.getD k 0:=xT h 0
def abW (n:Nat) (A:Nat->Nat->Rat):Nat->Nat->Rat:=λi j=>(rr n (abB n A iP) (n+n)).1 i (n+j)
theorem ahO {n:Nat} {A:Nat->Nat->Rat} (h:(rr n A n).2.length=n):∀i j,i<n->j<n->(rr n (abB n A iP) (n+n)).1 i j=iP i j:=λi j hi hj=>by have hf:=acz n A;have hr:=aca n (abB n A iP) (n+n);obtain⟨l2,h1,_⟩:=adf n (abB n A iP) n n;rw[(agk n n A iP).1] at h1;have h2:=hr.one j i (by omega) hi;rw[h1,aeD (by omega),(aca n A n).full h j hj] at h2;rw[h2];rfl
theorem agm {n:Nat} {A:Nat->Nat->Rat} (h:(rr n A n).2.length=n) (x:Nat->Rat):(∀i,i<n->apV (λj=>A i j*x j) n+x (n+i)=0)↔∀i,i<n->x i+apV (λj=>abW n A i j*x (n+j)) n=0:=by
 have hk:=aeM (n:=n) (m:=n+n) (F:=abB n A iP) (x:=x) (n+n);have e1:Ker n (n+n) (abB n A iP) x↔∀i,i<n->apV (λj=>A i j*x j) n+x (n+i)=0:=by
  unfold Ker;refine forall_congr' λi=>forall_congr' λhi=>?_
  rw[afi,aef (λj=>x (n+j)) hi]
 have e2:Ker n (n+n) (rr n (abB n A iP) (n+n)).1 x↔∀i,i<n->x i+apV (λj=>abW n A i j*x (n+j)) n=0:=by
  unfold Ker;refine forall_congr' λi=>forall_congr' λhi=>?_
  rw[acS,uv (n:=n) (g:=λj=>iP i j*x j) λj hj=>by rw[ahO h i j hi hj],aef x hi];exact Iff.rfl
 exact e1.symm.trans (hk.symm.trans e2)
theorem agU {n:Nat} {A:Nat->Nat->Rat} (h:(rr n A n).2.length=n):a64 n (dw A (abW n A) n) iP:=λi c hi hc=>by
 have h1:=(agm h (λt=>if t<n then -abW n A t c else iP (t-n) c)).2 (λi hi=>by rw[aV hi,uv (g:=λj=>abW n A i j*iP j c) λj _=>by (try dsimp only);rw[aI (by omega),show n+j-n=j by omega],aeX (λj=>abW n A i j) hc];grind) i hi
 rw[aI (by omega),show n+i-n=i by omega,uv (g:=λj=> -1*(A i j*abW n A j c)) λj hj=>by (try dsimp only);rw[aV hj];grind,abC,<-abt] at h1;grind
theorem akQ (m:Nat) (A:Nat->Nat->Rat) (b:Nat->Rat):abD m A b=abB m A λi _=>b i:=rfl
def ajj (n m:Nat) (A:Nat->Nat->Rat) (b:Nat->Rat):Bool:=(rr n (abD m A b) (m+1)).2.all λx=>decide (x<m)
theorem adn {n m:Nat} {A:Nat->Nat->Rat} {b:Nat->Rat}:ajj n m A b=true↔∀x∈(rr n (abD m A b) (m+1)).2,x<m:=by unfold ajj;rw[yv];exact⟨λh x hx=>AD (h x hx),λh x hx=>kx (h x hx)⟩
theorem ami {n m:Nat} {A:Nat->Nat->Rat} {b:Nat->Rat} (h:ajj n m A b=true):rr n (abD m A b) (m+1)=rr n (abD m A b) m:=by
 have h:∀x∈(rr n (abD m A b) (m+1)).2,x<m:=adn.1 h;show abv n (rr n (abD m A b) m) m=_;have h:∀x∈(abv n (rr n (abD m A b) m) m).2,x<m:=h;unfold abv at h ⊢;split
 ·rename_i hp;rw[aV hp] at h;exact absurd (h m (by simp)) (yq m)
 ·rfl
theorem alD {n m:Nat} {A:Nat->Nat->Rat} {b:Nat->Rat} (h:ajj n m A b=false):(rr n (abD m A b) (m+1)).2=(rr n A m).2++[m]:=by
 have h:¬ ∀x∈(rr n (abD m A b) (m+1)).2,x<m:=λhx=>by rw[adn.2 hx] at h;cases h
 have hj:=(agk n m A λi _=>b i).1;rw[<-akQ] at hj;rw[<-hj];have h:¬ ∀x∈(abv n (rr n (abD m A b) m) m).2,x<m:=h;show(abv n (rr n (abD m A b) m) m).2=_;unfold abv at h ⊢;split
 ·rfl
 ·rename_i hp;rw[aI hp] at h;exact absurd (λx hx=>aj7 hx) h
theorem akR {n m:Nat} {A:Nat->Nat->Rat} {b:Nat->Rat} (h:ajj n m A b=true):(rr n (abD m A b) (m+1)).2=(rr n A m).2/\∀i j,i<n->j<m->(rr n (abD m A b) (m+1)).1 i j=(rr n A m).1 i j:=by rw[ami h];have hj:=agk n m A λi _=>b i;rw[<-akQ] at hj;exact hj
def ak8 (n m:Nat) (A:Nat->Nat->Rat) (b:Nat->Rat):Nat->Rat:=akD m (rr n (abD m A b) (m+1)).1 (rr n (abD m A b) (m+1)).2
theorem ak9 {n m:Nat} {A:Nat->Nat->Rat} {b:Nat->Rat} (h:ajj n m A b=true):∀i,i<n->apV (λj=>A i j*ak8 n m A b j) m=b i:=λi hi=>
 amQ (aca n (abD m A b) (m+1)) (λ_=>(aeM (m+1)).1) (λk hk e=>yq m (by have h1:∀x∈(rr n (abD m A b) (m+1)).2,x<m:=adn.1 h;have:=h1 _ (Ao hk 0);omega)) i hi
theorem amB {n m:Nat} {A:Nat->Nat->Rat} {b x:Nat->Rat} (hx:∀i,i<n->apV (λj=>A i j*x j) m=b i):ajj n m A b=true:=adn.2 λy hy=>by have h1:=aj7 hy;obtain⟨k,hk,e⟩:=ahx hy 0;have:=amx (aca n (abD m A b) (m+1)) (λ_=>(aeM (m+1)).2) hx k hk;omega
theorem ahQ {l:List Nat} {k c:Nat} (h:c∈acR l k):c<k/\c ∉ l:=by unfold acR at h;obtain⟨h1,h2⟩:=G2.1 h;exact⟨yW.1 h1,λhc=>by simp[hc] at h2⟩
theorem agn {F G:Nat->Nat->Rat} {l:List Nat} {n k:Nat} (h:∀i j,i<l.length->j<k->F i j=G i j):abo F l n k=abo G l n k:=by
 unfold abo;refine LI λc hc=>bE λt _=>?_
 have hc:=(ahQ hc).1;unfold acm;by_cases e:t=c
 ·rw[aV e,aV e]
 ·rw[aI e,aI e];by_cases e2:l.idxOf t<l.length
  ·rw[aV e2,aV e2,h _ _ e2 hc]
  ·rw[aI e2,aI e2]
theorem ahR (F:Nat->Nat->Rat) (l:List Nat) (n k:Nat):(abo F l n k).length=(acR l k).length:=yo ..
theorem ap8 {f:Nat->Rat}:∀{n:Nat},(∀i,i<n->0<=f i)->0<=apV f n
 | 0,_=>NI
 | n+1,h=>by have h1:=ap8 (n:=n) λi hi=>h i (by omega);have h2:=h n (by omega);show 0<=apV f n+f n;grind
theorem ap6 {f:Nat->Rat}:∀{n:Nat},(∀i,i<n->0<=f i)->apV f n=0->∀i,i<n->f i=0
 | 0,_,_,i,hi=>absurd hi (ia i)
 | n+1,h,e,i,hi=>by
  have h1:=ap8 (n:=n) λi hi=>h i (by omega);have h2:=h n (by omega);have e:apV f n+f n=0:=e;rcases cM i n with n0 | n0
  ·exact ap6 (λi hi=>h i (by omega)) (by grind) i n0
  ·rw[show i=n by omega];grind
theorem aq7 (a:Rat):0<=a*a:=by
 rcases Rat.le_total (a:=0) (b:=a) with h | h
 ·exact GZ h h
 ·have:0 <= -a * -a:=GZ (by grind) (by grind);grind
theorem ar9 {a:Rat} (h:a*a=0):a=0:=by rcases G5.1 h with h | h<;>exact h
theorem aqT (F:Nat->Nat->Rat) (c v:Nat->Rat) (n m:Nat):apV (λi=>c i*apV (λj=>F i j*v j) m) n=apV (λj=>v j*apV (λi=>F i j*c i) n) m:=by have e1:apV (λi=>c i*apV (λj=>F i j*v j) m) n=apV (λi=>apV (λj=>c i*(F i j*v j)) m) n:=uv λi _=>(abC _ _ m).symm;rw[e1,akN];exact uv λj _=>(uv λi _=>by grind).trans (abC (v j) (λi=>F i j*c i) n)
end Go.Proofs.YtlijkeolpmgioaaGreatDoor.AM
namespace Go.Proofs.YtlijkeolpmgioaaGreatDoor.AM
def dMg (n:Nat) (v:Nat->Nat->Rat) (b:Nat->Rat) (j:Nat):Rat:=apV (λi=>b i*v i j) n
def ipW (w:Nat) (d e:Nat->Rat):Rat:=apV (λj=>d j*e j) w
def gMg (n w:Nat) (v:Nat->Nat->Rat) (b:Nat->Rat) (i:Nat):Rat:=ipW w (v i) (dMg n v b)
def fMg (n w:Nat) (v:Nat->Nat->Rat) (b:Nat->Rat):Rat:=ipW w (dMg n v b) (dMg n v b)
def sdS (n:Nat) (s:Nat->Bool) (t:Bool) (b:Nat->Rat):Rat:=apV (λi=>if s i=t then b i else 0) n
theorem aDw (w:Nat) (d e:Nat->Rat):ipW w d e=ipW w e d:=uv λ_ _=>CT _ _
theorem aVO (w:Nat) (d:Nat->Rat):0<=ipW w d d:=ap8 λ_ _=>aq7 _
theorem aNS {w:Nat} {d:Nat->Rat} (h:ipW w d d=0) (j:Nat) (hj:j<w):d j=0:=ar9 (ap6 (λ_ _=>aq7 _) h j hj)
theorem aPT (w:Nat) (a:Nat->Rat) (k:Rat) (c e:Nat->Rat):ipW w (λj=>a j+k*c j) e=ipW w a e+k*ipW w c e:=by unfold ipW;rw[<-abC,<-acw];exact uv λj _=>by grind
theorem aIO {w:Nat} {d:Nat->Rat} (h:∀j,j<w->d j=0) (e:Nat->Rat):ipW w d e=0:=acj λj hj=>by rw[h j hj,Az]
theorem aUT (n:Nat) (v:Nat->Nat->Rat) (a:Nat->Rat) (k:Rat) (c:Nat->Rat) (j:Nat):dMg n v (λi=>a i+k*c i) j=dMg n v a j+k*dMg n v c j:=by unfold dMg;rw[<-abC,<-acw];exact uv λi _=>by grind
theorem aPY {n:Nat} {v:Nat->Nat->Rat} {a b:Nat->Rat} (h:∀i,i<n->a i=b i) (j:Nat):dMg n v a j=dMg n v b j:=uv λi hi=>by rw[h i hi]
theorem aTX {n w:Nat} {v:Nat->Nat->Rat} {a b:Nat->Rat} (h:∀i,i<n->a i=b i):fMg n w v a=fMg n w v b:=by have e:dMg n v a=dMg n v b:=funext (aPY h);unfold fMg;rw[e]
theorem aJe {n w:Nat} {v:Nat->Nat->Rat} {a b:Nat->Rat} (h:∀i,i<n->a i=b i) (i:Nat):gMg n w v a i=gMg n w v b i:=by have e:dMg n v a=dMg n v b:=funext (aPY h);unfold gMg;rw[e]
theorem aTY {n:Nat} {s:Nat->Bool} {t:Bool} {a b:Nat->Rat} (h:∀i,i<n->a i=b i):sdS n s t a=sdS n s t b:=uv λi hi=>by rw[h i hi]
theorem aS3 (n:Nat) (s:Nat->Bool) (t:Bool) (a:Nat->Rat) (k:Rat) (c:Nat->Rat):sdS n s t (λi=>a i+k*c i)=sdS n s t a+k*sdS n s t c:=by
 unfold sdS;rw[<-abC,<-acw];exact uv λi _=>by
  by_cases h:s i=t
  ·rw[aV h,aV h,aV h]
  ·rw[aI h,aI h,aI h];grind
theorem aUb (n w:Nat) (v:Nat->Nat->Rat) (c b:Nat->Rat):ipW w (dMg n v c) (dMg n v b)=apV (λi=>c i*gMg n w v b i) n:=by
 unfold gMg;have h:=aqT v c (dMg n v b) n w;refine Eq.trans ?_ h.symm;rw[aDw];exact uv λj _=>by show dMg n v b j*apV (λi=>c i*v i j) n=_;congr 1;exact uv λi _=>CT _ _
theorem aNa (n w:Nat) (v:Nat->Nat->Rat) (a:Nat->Rat) (k:Rat) (c:Nat->Rat):fMg n w v (λi=>a i+k*c i)=fMg n w v a+2*k*ipW w (dMg n v c) (dMg n v a)+k*k*fMg n w v c:=by have e:dMg n v (λi=>a i+k*c i)=λj=>dMg n v a j+k*dMg n v c j:=funext (aUT n v a k c);unfold fMg;rw[e];generalize dMg n v a=A;generalize dMg n v c=C;have h1:=aPT w A k C λj=>A j+k*C j;have h2:=aDw w A λj=>A j+k*C j;have h3:=aDw w C λj=>A j+k*C j;have h4:=aPT w A k C A;have h5:=aPT w A k C C;have h6:=aDw w A C;rw[h1,h2,h3,h4,h5,h6];grind
theorem aNb (n w:Nat) (v:Nat->Nat->Rat) (b:Nat->Rat):0<=fMg n w v b:=aVO _ _
theorem aK9 (n:Nat) (s:Nat->Bool) (c:Nat->Rat) (lm:Bool->Rat):apV (λi=>c i*lm (s i)) n=lm true*sdS n s true c+lm false*sdS n s false c:=by
 unfold sdS;rw[<-abC,<-abC,<-acw];refine uv λi _=>?_
 cases h:s i<;>simp<;>grind
def aBb (n w:Nat) (v:Nat->Nat->Rat) (s:Nat->Bool) (U:Nat->Prop):Prop:=∀c:Nat->Rat,(∀i,i<n->¬U i->c i=0)->(∀t,sdS n s t c=0)->(∀j,j<w->dMg n v c j=0)->∀i,i<n->c i=0
theorem aBb.sub {n w:Nat} {v:Nat->Nat->Rat} {s:Nat->Bool} {U U':Nat->Prop} (h:aBb n w v s U) (hs:∀i,i<n->U' i->U i):aBb n w v s U':=λc h1 h2 h3=>h c (λi hi hn=>h1 i hi λh'=>hn (hs i hi h')) h2 h3
structure KkW (n w:Nat) (v:Nat->Nat->Rat) (s:Nat->Bool) (U:Nat->Prop) (b:Nat->Rat) (lm:Bool->Rat):Prop where
 off:∀i,i<n->¬U i->b i=0
 sum:∀t,sdS n s t b=1
 kk:∀i,i<n->U i->gMg n w v b i=lm (s i)
variable {n w:Nat} {v:Nat->Nat->Rat} {s:Nat->Bool} {U:Nat->Prop} {b:Nat->Rat} {lm:Bool->Rat}
theorem aS4 (c b:Nat->Rat):c=λi=>b i+1*(c i-b i):=funext λi=>by grind
theorem aE0 {c b:Nat->Rat} (hc:∀t,sdS n s t c=1) (hb:∀t,sdS n s t b=1) (t:Bool):sdS n s t (λi=>c i-b i)=0:=by
 have e:(λi=>c i-b i)=λi=>c i+(-1)*b i:=funext λi=>by grind
 rw[e,aS3,hc,hb];grind
theorem KkW.aUV (h:KkW n w v s U b lm) {c:Nat->Rat} (hz:∀i,i<n->¬U i->c i=0) (hs:∀t,sdS n s t c=0):ipW w (dMg n v c) (dMg n v b)=0:=by
 rw[aUb];have e:apV (λi=>c i*gMg n w v b i) n=apV (λi=>c i*lm (s i)) n:=uv λi hi=>by
  by_cases hu:U i
  ·rw[h.kk i hi hu]
  ·rw[hz i hi hu,Az,Az]
 rw[e,aK9,hs,hs];grind
theorem KkW.opt (h:KkW n w v s U b lm) {c:Nat->Rat} (hz:∀i,i<n->¬U i->c i=0) (hs:∀t,sdS n s t c=1):fMg n w v c=fMg n w v b+fMg n w v (λi=>c i-b i):=by have h0:=h.aUV (c:=λi=>c i-b i) (λi hi hu=>by rw[hz i hi hu,h.off i hi hu];grind) (aE0 hs h.sum);have h1:=aNa n w v b 1 λi=>c i-b i;rw[<-aS4 c b,h0] at h1;rw[h1];grind
theorem KkW.uniq (h:KkW n w v s U b lm) (hi:aBb n w v s U) {c:Nat->Rat} {mu:Bool->Rat} (k:KkW n w v s U c mu) (i:Nat) (hn:i<n):c i=b i:=by
 have h1:=h.opt k.off k.sum;have h2:=k.opt h.off h.sum;have h3:=aNb n w v λi=>c i-b i;have h4:=aNb n w v λi=>b i-c i;have h5:fMg n w v (λi=>c i-b i)=0:=by grind
 have:=hi (λi=>c i-b i) (λi hi hu=>by rw[k.off i hi hu,h.off i hi hu];grind) (aE0 k.sum h.sum) (λj hj=>aNS h5 j hj) i hn;grind
theorem KkW.aVP (h:KkW n w v s U b lm) (hi:aBb n w v s U) {r:Nat} (hr:r<n) (hu:¬U r) (hv:gMg n w v b r≠lm (s r)):aBb n w v s (λi=>U i\/i=r):=λc h1 h2 h3=>by
 have h0:ipW w (dMg n v c) (dMg n v b)=0:=aIO h3 _;rw[aUb] at h0;have e:apV (λi=>c i*gMg n w v b i) n=apV (λi=>c i*lm (s i)+(if i=r then c r*(gMg n w v b r-lm (s r)) else 0)) n:=uv λi hi=>by
  by_cases e:i=r
  ·rw[aV e,e];grind
  ·rw[aI e];by_cases sI:U i
   ·rw[h.kk i hi sI];grind
   ·rw[h1 i hi λhh=>hh.elim sI e];grind
 rw[e,acw,aK9,h2,h2,ace hr λi hi ay=>aI ay,aV rfl] at h0;have h5:c r*(gMg n w v b r-lm (s r))=0:=by grind
 have h6:c r=0:=(G5.1 h5).elim id λhh=>absurd (by grind) hv;exact hi c (λi hi hn=>by
  by_cases e:i=r
  ·rw[e];exact h6
  ·exact h1 i hi λhh=>hh.elim hn e) h2 h3
def stW (U:Nat->Bool) (b t:Nat->Rat):Nat->Rat
 | 0=>1
 | k+1=>if U k=true/\t k<0 then (if b k/(b k-t k)<stW U b t k then b k/(b k-t k) else stW U b t k) else stW U b t k
theorem aUw {x y:Rat} (hx:0<=x) (hy:0<y):0<=x/y:=by rw[GX];exact GZ hx (Mq (Rat.inv_pos.2 hy))
theorem aTZ {x y:Rat} (hx:0<x) (hy:0<y):0<x/y:=by rw[GX];exact Rat.mul_pos hx (Rat.inv_pos.2 hy)
structure StW (U:Nat->Bool) (b t:Nat->Rat) (m:Nat) (x:Rat):Prop where
 nn:0<=x
 le:x<=1
 at':∀k,k<m->U k=true->t k<0->x*(b k-t k)<=b k
 hit:x<1->∃k,k<m/\U k=true/\t k<0/\x*(b k-t k)=b k
 pos:(∀k,k<m->U k=true->t k<0->0<b k)->0<x
theorem aUc {U:Nat->Bool} {b t:Nat->Rat} (hb:∀k,0<=b k):∀m,StW U b t m (stW U b t m)
 | 0=>⟨by show(0:Rat)<=1;grind,NI,λk hk=>absurd hk (ia k),λh=>absurd h (by show ¬(1:Rat)<1;grind),λ_=>by show(0:Rat)<1;grind⟩
 | m+1=>by
  have ih:=aUc (U:=U) (t:=t) hb m;unfold stW;generalize stW U b t m=x at *
  by_cases h:U m=true/\t m<0
  ·rw[aV h];have hp:0<b m-t m:=by have:=hb m;have:=h.2;grind
   have ay:b m-t m≠0:=by grind
   have hq:=aUw (hb m) hp;have wT:b m/(b m-t m)*(b m-t m)=b m:=Rat.div_mul_cancel ay;by_cases h2:b m/(b m-t m)<x
   ·rw[aV h2];refine⟨hq,Rat.le_trans (Mq h2) ih.le,λk hk _ ht=>?_,λ_=>⟨m,tS m,h.1,h.2,wT⟩,λwi=>aTZ (wi m (tS m) h.1 h.2) hp⟩;rcases cM k m with jb | jb
    ·have h3:=ih.at' k jb ‹_› ht;have h4:0<=b k-t k:=by have:=hb k;grind
     exact Rat.le_trans (Lj (Mq h2) h4) h3
    ·rw[show k=m by omega,wT];exact NI
   ·rw[aI h2];refine⟨ih.nn,ih.le,λk hk hu ht=>?_,λhx=>?_,λwi=>ih.pos λk hk=>wi k (by omega)⟩
    ·rcases cM k m with jb | jb
     ·exact ih.at' k jb hu ht
     ·rw[show k=m by omega];have h5:x<=b m/(b m-t m):=Rat.not_lt.1 h2;have:=Lj h5 (Mq hp);rwa [wT] at this
    ·obtain⟨k,h1,h3⟩:=ih.hit hx;exact⟨k,by omega,h3⟩
  ·rw[aI h];refine⟨ih.nn,ih.le,λk hk hu ht=>?_,λhx=>?_,λwi=>ih.pos λk hk=>wi k (by omega)⟩
   ·rcases cM k m with jb | jb
    ·exact ih.at' k jb hu ht
    ·rw[show k=m by omega] at hu ht;exact absurd ⟨hu,ht⟩ h
   ·obtain⟨k,h1,h3⟩:=ih.hit hx;exact⟨k,by omega,h3⟩
end Go.Proofs.YtlijkeolpmgioaaGreatDoor.AM
namespace Go.Proofs.YtlijkeolpmgioaaGreatDoor.AM
variable {n w:Nat} {v:Nat->Nat->Rat} {s:Nat->Bool} {U:Nat->Bool} {b t:Nat->Rat} {lm:Bool->Rat}
structure HdW (n w:Nat) (v:Nat->Nat->Rat) (s:Nat->Bool) (b:Nat->Rat):Prop where
 nn:∀i,0<=b i
 kk:∃lm,KkW n w v s (λi=>0<b i) b lm
 ind:aBb n w v s λi=>0<b i
structure InW (n w:Nat) (v:Nat->Nat->Rat) (s U:Nat->Bool) (b:Nat->Rat):Prop where
 nn:∀i,0<=b i
 sup:∀i,i<n->0<b i->U i=true
 sum:∀t,sdS n s t b=1
 ind:aBb n w v s λi=>U i=true
theorem InW.off (h:InW n w v s U b) {i:Nat} (hi:i<n) (hu:¬U i=true):b i=0:=by
 have h1:=h.nn i;rcases LK.1 h1 with h2 | h2
 ·exact absurd (h.sup i hi h2) hu
 ·exact h2.symm
def nxW (U:Nat->Bool) (b t:Nat->Rat) (x:Rat) (i:Nat):Rat:=if U i=true then b i+x*(t i-b i) else b i
def nuW (U:Nat->Bool) (b:Nat->Rat) (i:Nat):Bool:=if U i=true then decide (0<b i) else U i
theorem aR6 (h:InW n w v s U b) (k:KkW n w v s (λi=>U i=true) t lm) (x:Rat) (i:Nat) (hi:i<n):nxW U b t x i=b i+x*(t i-b i):=by
 unfold nxW;by_cases hu:U i=true
 ·rw[aV hu]
 ·rw[aI hu,h.off hi hu,k.off i hi hu];grind
theorem aUd (h:InW n w v s U b) (k:KkW n w v s (λi=>U i=true) t lm) (x:Rat) (d:Bool):sdS n s d (nxW U b t x)=1:=by rw[aTY (aR6 h k x),aS3,h.sum,aE0 k.sum h.sum];grind
theorem aUW (h:InW n w v s U b) {x:Rat} (hx:StW U b t n x) (hU:∀i,U i=true->i<n) (i:Nat):0<=nxW U b t x i:=by
 unfold nxW;by_cases hu:U i=true
 ·rw[aV hu];have h0:=h.nn i;by_cases ht:t i<0
  ·have:=hx.at' i (hU i hu) hu ht;have e:b i+x*(t i-b i)=b i-x*(b i-t i):=by grind
   rw[e];grind
  ·have h1:0<=t i:=Rat.not_lt.1 ht;have h2:0<=(1-x)*b i:=GZ (by have:=hx.le;grind) h0;have h3:0<=x*t i:=GZ hx.nn h1;have e:b i+x*(t i-b i)=(1-x)*b i+x*t i:=by grind
   rw[e];grind
 ·rw[aI hu];exact h.nn i
theorem aWh (h:InW n w v s U b) (k:KkW n w v s (λi=>U i=true) t lm) (x:Rat):fMg n w v b=fMg n w v t+fMg n w v (λi=>b i-t i)/\fMg n w v (nxW U b t x)=fMg n w v t+(1-x)*(1-x)*fMg n w v (λi=>b i-t i):=by
 have hb:=k.opt (λi hi hu=>h.off hi hu) h.sum;refine⟨hb,?_⟩;have e:fMg n w v (nxW U b t x)=fMg n w v λi=>t i+(1-x)*(b i-t i):=aTX λi hi=>by rw[aR6 h k x i hi];grind
 have hc:=k.aUV (c:=λi=>b i-t i) (λi hi hu=>by rw[h.off hi hu,k.off i hi hu];grind) (aE0 h.sum k.sum);rw[e,aNa,hc];grind
theorem aUX {x y:Rat} (h0:0<=x) (h1:x<=1) (hy:0<=y):(1-x)*(1-x)*y<=y:=by
 have a:0<=x*(2-x):=GZ h0 (by grind);have b:0<=x*(2-x)*y:=GZ a hy;have e:(1-x)*(1-x)*y=y-x*(2-x)*y:=by grind
 rw[e];grind
theorem aUY {x y:Rat} (h0:0<x) (h1:x<=1) (hy:0<y):(1-x)*(1-x)*y<y:=by
 have a:0<x*(2-x):=Rat.mul_pos h0 (by grind);have b:0<x*(2-x)*y:=Rat.mul_pos a hy;have e:(1-x)*(1-x)*y=y-x*(2-x)*y:=by grind
 rw[e];grind
theorem aXO (h:InW n w v s U b) (k:KkW n w v s (λi=>U i=true) t lm) {x:Rat} (hx:StW U b t n x):fMg n w v (nxW U b t x)<=fMg n w v b:=by obtain⟨h1,h2⟩:=aWh h k x;rw[h1,h2];have:=aUX hx.nn hx.le (aNb n w v λi=>b i-t i);grind
theorem aVQ {x:Rat} (h:InW n w v s U b) {i:Nat} (hi:i<n):nuW U (nxW U b t x) i=true↔0<nxW U b t x i:=by
 unfold nuW;by_cases hu:U i=true
 ·rw[aV hu];simp
 ·rw[aI hu];have e:nxW U b t x i=0:=by unfold nxW;rw[aI hu];exact h.off hi hu
  rw[e];exact⟨λh=>absurd h hu,λh=>absurd h (by grind)⟩
theorem aU0 (h:InW n w v s U b) (k:KkW n w v s (λi=>U i=true) t lm) (hx:StW U b t n 1) (hU:∀i,U i=true->i<n):HdW n w v s (nxW U b t 1):=by
 have e:∀i,i<n->nxW U b t 1 i=t i:=λi hi=>by rw[aR6 h k 1 i hi];grind
 have ZG:=aUW h hx hU;have hs:∀i,i<n->0<nxW U b t 1 i->U i=true:=λi hi hp=>Gc λhn=>by rw[e i hi,k.off i hi hn] at hp;grind
 refine⟨ZG,⟨lm,λi hi hn=>?_,aUd h k 1,λi hi hp=>?_⟩,h.ind.sub hs⟩
 ·have:=ZG i;rcases LK.1 this with h2 | h2
  ·exact absurd h2 hn
  ·exact h2.symm
 ·rw[aJe e];exact k.kk i hi (hs i hi hp)
theorem aXP (h:InW n w v s U b) (k:KkW n w v s (λi=>U i=true) t lm) {x:Rat} (hx:StW U b t n x) (hU:∀i,U i=true->i<n) (h1:x<1) :
  InW n w v s (nuW U (nxW U b t x)) (nxW U b t x)/\(∀i,nuW U (nxW U b t x) i=true->U i=true)/\∃i,i<n/\U i=true/\nuW U (nxW U b t x) i=false:=by
 have sub:∀i,nuW U (nxW U b t x) i=true->U i=true:=λi hi=>Gc λhn=>by unfold nuW at hi;rw[aI hn] at hi;exact hn hi
 refine⟨⟨aUW h hx hU,λi hi hp=>(aVQ h hi).2 hp,aUd h k x,h.ind.sub λi _ hi=>sub i hi⟩,sub,?_⟩
 obtain⟨i,hi,hu,_,he⟩:=hx.hit h1
 refine⟨i,hi,hu,?_⟩
 have e:nxW U b t x i=0:=by
  unfold nxW;rw[aV hu];have:x*(t i-b i) = -(x*(b i-t i)):=by grind
  rw[this,he];grind
 unfold nuW
 rw[aV hu,e]
 exact eJ (by grind)
theorem aU1 (h:HdW n w v s b) {r:Nat} (hr:r<n) (k:KkW n w v s (λi=>0<b i) b lm) (hv:gMg n w v b r<lm (s r)):b r=0/\InW n w v s (λi=>decide (0<b i)||decide (i=r)) b:=by
 have hz:¬0<b r:=λhp=>by have:=k.kk r hr hp;grind
 have h0:b r=0:=by
  rcases LK.1 (h.nn r) with h2 | h2
  ·exact absurd h2 hz
  ·exact h2.symm
 refine⟨h0,h.nn,λi _ hp=>by simp[hp],k.sum,(k.aVP h.ind hr hz (by grind)).sub λi _ hi=>?_⟩;simpa using hi
theorem aU2 (h:HdW n w v s b) {r:Nat} (hr:r<n) (k0:KkW n w v s (λi=>0<b i) b lm) (hv:gMg n w v b r<lm (s r)) {mu:Bool->Rat}
  (k:KkW n w v s (λi=>(decide (0<b i)||decide (i=r))=true) t mu) {x:Rat} (hx:StW (λi=>decide (0<b i)||decide (i=r)) b t n x):fMg n w v (nxW (λi=>decide (0<b i)||decide (i=r)) b t x)<fMg n w v b:=by
 obtain⟨h0,hI⟩:=aU1 h hr k0 hv
 obtain⟨h1,h2⟩:=aWh hI k x
 have ZG:=aNb n w v λi=>b i-t i
 have hz:∀i,i<n->¬(0<b i)->i≠r->t i=0:=λi hi hn ay=>k.off i hi (by simp[hn,ay])
 have hg:apV (λi=>(t i-b i)*gMg n w v b i) n=t r*(gMg n w v b r-lm (s r)):=by
  have e:apV (λi=>(t i-b i)*gMg n w v b i) n=apV (λi=>(t i-b i)*lm (s i)+(if i=r then t r*(gMg n w v b r-lm (s r)) else 0)) n:=uv λi hi=>by
   by_cases e:i=r
   ·rw[aV e,e,h0];grind
   ·rw[aI e];by_cases hp:0<b i
    ·rw[k0.kk i hi hp];grind
    ·rw[hz i hi hp e];have:b i=0:=by have:=h.nn i;grind
     rw[this];grind
  rw[e,acw,aK9 (lm:=lm) n s (λi=>t i-b i),aE0 k.sum k0.sum,aE0 k.sum k0.sum,ace hr λi hi ay=>aI ay,aV rfl];grind
 have h3:=aNa n w v b 1 λi=>t i-b i
 rw[<-aS4 t b,aUb,hg] at h3
 have e4:fMg n w v (λi=>t i-b i)=fMg n w v (λi=>b i-t i):=by
  have h5:=aNa n w v (λ_=>0) (-1) λi=>b i-t i;have e5:(λi=>(0:Rat)+(-1)*(b i-t i))=λi=>t i-b i:=funext λi=>by grind
  have e6:fMg n w v (λ_=>0)=0:=aIO (λj _=>acj λi _=>Az _) _;have e7:ipW w (dMg n v λi=>b i-t i) (dMg n v λ_=>0)=0:=by rw[aDw];exact aIO (λj _=>acj λi _=>Az _) _
  rw[e5,e6,e7] at h5;rw[h5];grind
 rw[e4] at h3
 have h6:t r*(lm (s r)-gMg n w v b r)=fMg n w v (λi=>b i-t i):=by grind
 have wi:0<lm (s r)-gMg n w v b r:=by grind
 have hf:fMg n w v (λi=>b i-t i)≠0:=λhf=>by
  have hd:∀i,i<n->b i-t i=0:=hI.ind (λi=>b i-t i) (λi hi hu=>by rw[hI.off hi hu,k.off i hi hu];grind) (aE0 hI.sum k.sum) λj hj=>aNS hf j hj;have ht:∀i,i<n->b i=t i:=λi hi=>by have:=hd i hi;grind
  have e8:=k.kk r hr (by simp);rw[<-aJe ht] at e8;obtain⟨i,hi,hsi,hp⟩:∃i,i<n/\s i=s r/\0<b i:=Gb λhn=>by
   have:sdS n s (s r) b=0:=acj λi hi=>by
    by_cases e:s i=s r
    ·rw[aV e];have:=h.nn i;have:¬0<b i:=λhp=>hn ⟨i,hi,e,hp⟩;grind
    ·rw[aI e]
   rw[k0.sum] at this;grind
  have e9:=k.kk i hi (by simp[hp]);rw[<-aJe ht,k0.kk i hi hp,hsi] at e9;grind
 have hfp:0<fMg n w v (λi=>b i-t i):=by grind
 have htr:0<t r:=Gb λhn=>by have:0 <= -t r*(lm (s r)-gMg n w v b r):=GZ (by grind) (by grind);grind
 have vC:0<x:=hx.pos λi hi hu ht=>by
  by_cases e:i=r
  ·rw[e] at ht;grind
  ·simpa [e] using hu
 rw[h1,h2]
 have:=aUY vC hx.le hfp
 grind
end Go.Proofs.YtlijkeolpmgioaaGreatDoor.AM
namespace Go.Proofs.YtlijkeolpmgioaaGreatDoor.AM
def shF (c:Nat) (F:Nat->Nat->Rat):Nat->Nat->Rat:=λa b=>F (a+c) (b+c)
def acb (n:Nat) (F0:Nat->Nat->Rat) (c:Nat) (d:Rat) (F:Nat->Nat->Rat):Prop:=d*aty (n-c) (shF c F)=aty n F0
def wc (A:Nat->Nat->Int):Nat->Nat->Rat:=λi j=>(A i j:Rat)
def ab4 (k:Nat) (r:Nat->Nat) (a:Nat):Nat:=if a<k then a else r (a-k)
structure abM (n:Nat) (A0:Nat->Nat->Int) (k:Nat) (last:Int) (neg:Bool) (W:Nat->Nat->Int):Prop where
 ne:last≠0
 of:∃A:Nat->Nat->Int,(cond neg (-1) 1:Rat)*aty n (wc A)=aty n (wc A0) /\
  ∀m r s,(∀a,a<m->k<=r a/\r a<n/\k<=s a/\s a<n)->aty (k+m) (λa b=>wc A (ab4 k r a) (ab4 k s b))=(last:Rat)*aty m (λa b=>wc W (r a) (s b)/(last:Rat))
end Go.Proofs.YtlijkeolpmgioaaGreatDoor.AM
namespace Go.Proofs.YtlijkeolpmgioaaGreatDoor.AM
def usR (U:Nat->Bool):Nat->List Nat
 | 0=>[]
 | n+1=>if U n=true then usR U n++[n] else usR U n
def rkU (U:Nat->Bool) (n:Nat):Nat:=(usR U n).length
variable {U:Nat->Bool} {n w:Nat} {v:Nat->Nat->Rat} {s:Nat->Bool}
theorem aKC (h:U n=true):usR U (n+1)=usR U n++[n]:=aV h
theorem aPd (h:¬U n=true):usR U (n+1)=usR U n:=aI h
theorem avJ (h:U n=true):rkU U (n+1)=rkU U n+1:=by unfold rkU;rw[aKC h,fK];rfl
theorem aDb (h:¬U n=true):rkU U (n+1)=rkU U n:=by unfold rkU;rw[aPd h]
theorem aS6 (U:Nat->Bool) (i:Nat):∀d,rkU U i<=rkU U (i+d)
 | 0=>bF _
 | d+1=>by
  have:=aS6 U i d;by_cases h:U (i+d)=true
  ·rw[<-yz,avJ h];omega
  ·rw[<-yz,aDb h];exact this
theorem aUe (U:Nat->Bool) (i:Nat):∀d,∃l,usR U (i+d)=usR U i++l
 | 0=>⟨[],by rw[Gz];rfl⟩
 | d+1=>by
  obtain⟨l,hl⟩:=aUe U i d;by_cases h:U (i+d)=true
  ·exact⟨l++[i+d],by rw[<-yz,aKC h,hl,vw]⟩
  ·exact⟨l,by rw[<-yz,aPd h,hl]⟩
theorem aR7 {i:Nat} (hi:i<n) (h:U i=true):rkU U i<rkU U n/\(usR U n).getD (rkU U i) 0=i:=by obtain⟨d,rfl⟩:=K4 (show i+1<=n from hi);have h1:=aS6 U (i+1) d;rw[avJ h] at h1;refine⟨by omega,?_⟩;obtain⟨l,hl⟩:=aUe U (i+1) d;rw[hl,aKC h,vw];unfold rkU;rw[au,pw (bF _),Gf];rfl
theorem aUf (U:Nat->Bool) (n:Nat):(usR U n++[n]).getD (rkU U n) 0=n:=by unfold rkU;rw[au,pw (bF _),Gf];rfl
theorem aQm:∀{n k:Nat},k<rkU U n->(usR U n).getD k 0<n/\U ((usR U n).getD k 0)=true/\rkU U ((usR U n).getD k 0)=k
 | 0,k,h=>absurd h (ia k)
 | n+1,k,h=>by
  by_cases hu:U n=true
  ·rw[aKC hu];rw[avJ hu] at h;by_cases hk:k<rkU U n
   ·obtain⟨h1,h2,h3⟩:=aQm hk;have e:(usR U n++[n]).getD k 0=(usR U n).getD k 0:=by
     rw[au,ja hk,<-au]
    rw[e];exact⟨by omega,h2,h3⟩
   ·have sF:k=rkU U n:=by omega
    have e:(usR U n++[n]).getD k 0=n:=by rw[sF];exact aUf U n
    rw[e];exact⟨by omega,hu,sF.symm⟩
  ·rw[aPd hu];rw[aDb hu] at h;obtain⟨h1,h2,h3⟩:=aQm h;exact⟨by omega,h2,h3⟩
def spU (U:Nat->Bool) (l:Nat->Rat) (i:Nat):Rat:=if U i=true then l (rkU U i) else 0
theorem aPe (U:Nat->Bool) (l h:Nat->Rat):∀n,apV (λi=>spU U l i*h i) n=apV (λk=>l k*h ((usR U n).getD k 0)) (rkU U n)
 | 0=>rfl
 | n+1=>by
  show apV _ n+spU U l n*h n=_;rw[aPe U l h n];by_cases hu:U n=true
  ·rw[avJ hu,aKC hu];show _=apV _ (rkU U n)+l (rkU U n)*h ((usR U n++[n]).getD (rkU U n) 0);rw[aUf];unfold spU;rw[aV hu];congr 1;refine uv λk hk=>?_;rw[au,au,ja hk]
  ·rw[aDb hu,aPd hu];unfold spU;rw[aI hu,Az,Rat.add_zero]
def sd1 (t:Bool):Nat:=if t=true then 1 else 0
def gmM (w:Nat) (v:Nat->Nat->Rat) (i k:Nat):Rat:=ipW w (v i) (v k)
def kkF (w:Nat) (v:Nat->Nat->Rat) (s:Nat->Bool) (r:Nat->Nat) (m a c:Nat):Rat:=
 if a<m then (if c<m then gmM w v (r a) (r c) else if c=m+sd1 (s (r a)) then -1 else 0)
 else if c<m then (if a=m+sd1 (s (r c)) then 1 else 0) else 0
def kkB (m a:Nat):Rat:=if a<m then 0 else 1
theorem aS7 {f:Nat->Rat} (m:Nat):apV f (m+2)=apV f m+(f m+f (m+1)):=by show apV f m+f m+f (m+1)=_;grind
theorem aUg {r:Nat->Nat} {m a:Nat} (ha:a<m) (l:Nat->Rat):apV (λc=>kkF w v s r m a c*l c) (m+2)=apV (λc=>l c*gmM w v (r a) (r c)) m-l (m+sd1 (s (r a))):=by
 rw[aS7];have e1:apV (λc=>kkF w v s r m a c*l c) m=apV (λc=>l c*gmM w v (r a) (r c)) m:=uv λc hc=>by unfold kkF;rw[aV ha,aV hc];exact CT _ _
 rw[e1];have e2:kkF w v s r m a m=if m=m+sd1 (s (r a)) then -1 else 0:=by unfold kkF;rw[aV ha,aI (yq m)]
 have e3:kkF w v s r m a (m+1)=if m+1=m+sd1 (s (r a)) then -1 else 0:=by unfold kkF;rw[aV ha,aI (by omega)]
 rw[e2,e3]
 cases h:s (r a) with
 | true=>rw[aI (by unfold sd1;rw[aV rfl];omega),aV (by unfold sd1;rw[aV rfl])];unfold sd1;rw[aV rfl];grind
 | false=>rw[aV (by unfold sd1;rw[aI (by decide)];rfl),aI (by unfold sd1;rw[aI (by decide)];omega)];unfold sd1;rw[aI (by decide)];show _+(-1*l m+0*l (m+1))=_-l m;grind
theorem aUh {r:Nat->Nat} {m:Nat} (t:Bool) (l:Nat->Rat):apV (λc=>kkF w v s r m (m+sd1 t) c*l c) (m+2)=apV (λc=>l c*if s (r c)=t then 1 else 0) m:=by
 rw[aS7];have e2:kkF w v s r m (m+sd1 t) m=0:=by unfold kkF;rw[aI (by omega),aI (yq m)]
 have e3:kkF w v s r m (m+sd1 t) (m+1)=0:=by unfold kkF;rw[aI (by omega),aI (by omega)]
 rw[e2,e3];have e1:apV (λc=>kkF w v s r m (m+sd1 t) c*l c) m=apV (λc=>l c*if s (r c)=t then 1 else 0) m:=uv λc hc=>by
  unfold kkF;rw[aI (by omega),aV hc,CT];congr 1;by_cases h:s (r c)=t
  ·rw[aV h,aV (by rw[h])]
  ·rw[aI h,aI λe=>h ?_]
   cases h1:s (r c)<;>cases t<;>simp_all [sd1]
 rw[e1];grind
theorem aWi (U:Nat->Bool) (n w:Nat) (v:Nat->Nat->Rat) (l:Nat->Rat) (i:Nat):gMg n w v (spU U l) i=apV (λk=>l k*gmM w v i ((usR U n).getD k 0)) (rkU U n):=by
 unfold gMg;have e:dMg n v (spU U l)=λj=>apV (λk=>l k*v ((usR U n).getD k 0) j) (rkU U n):=funext λj=>aPe U l (λi=>v i j) n
 rw[e];unfold gmM ipW;have e2:apV (λj=>v i j*apV (λk=>l k*v ((usR U n).getD k 0) j) (rkU U n)) w=apV (λj=>apV (λk=>v i j*(l k*v ((usR U n).getD k 0) j)) (rkU U n)) w:=uv λj _=>(abC _ _ _).symm;rw[e2,akN];refine uv λk _=>?_;rw[<-abC];exact uv λj _=>by grind
theorem aQo (U:Nat->Bool) (n:Nat) (s:Nat->Bool) (t:Bool) (l:Nat->Rat):sdS n s t (spU U l)=apV (λk=>l k*if s ((usR U n).getD k 0)=t then 1 else 0) (rkU U n):=by
 rw[<-aPe U l (λi=>if s i=t then 1 else 0) n];unfold sdS;refine uv λi _=>?_;by_cases h:s i=t
 ·rw[aV h,aV h,NJ]
 ·rw[aI h,aI h,Lg]
abbrev rU (U:Nat->Bool) (n k:Nat):Nat:=(usR U n).getD k 0
theorem aVR {l:Nat->Rat} (h:∀a,a<rkU U n+2->apV (λc=>kkF w v s (rU U n) (rkU U n) a c*l c) (rkU U n+2)=kkB (rkU U n) a):KkW n w v s (λi=>U i=true) (spU U l) λt=>l (rkU U n+sd1 t):=by
 refine⟨λi _ hu=>aI hu,λt=>?_,λi hi hu=>?_⟩
 ·have h1:=h (rkU U n+sd1 t) (by unfold sd1;split<;>omega);rw[aUh,show kkB (rkU U n) (rkU U n+sd1 t)=1 from aI (by omega)] at h1;rw[aQo];exact h1
 ·obtain⟨h1,h2⟩:=aR7 hi hu;have h3:=h (rkU U i) (by omega);rw[aUg h1,show kkB (rkU U n) (rkU U i)=0 from aV h1] at h3;have e:rU U n (rkU U i)=i:=h2;rw[e] at h3;rw[aWi];have:apV (λk=>l k*gmM w v i ((usR U n).getD k 0)) (rkU U n)-l (rkU U n+sd1 (s i))=0:=h3;grind
theorem aVS (hi:aBb n w v s λi=>U i=true) (hs:∀t,∃i,i<n/\s i=t/\U i=true) {y:Nat->Rat} (h:∀a,a<rkU U n+2->apV (λc=>kkF w v s (rU U n) (rkU U n) a c*y c) (rkU U n+2)=0):∀c,c<rkU U n+2->y c=0:=by
 have jY:∀t,sdS n s t (spU U y)=0:=λt=>by have h1:=h (rkU U n+sd1 t) (by unfold sd1;split<;>omega);rw[aUh] at h1;rw[aQo];exact h1
 have hg:∀i,i<n->U i=true->gMg n w v (spU U y) i=y (rkU U n+sd1 (s i)):=λi hi hu=>by obtain⟨h1,h2⟩:=aR7 hi hu;have h3:=h (rkU U i) (by omega);rw[aUg h1] at h3;have e:rU U n (rkU U i)=i:=h2;rw[e] at h3;rw[aWi];have:apV (λk=>y k*gmM w v i ((usR U n).getD k 0)) (rkU U n)-y (rkU U n+sd1 (s i))=0:=h3;grind
 have hf:fMg n w v (spU U y)=0:=by
  unfold fMg;rw[aUb];have e:apV (λi=>spU U y i*gMg n w v (spU U y) i) n=apV (λi=>spU U y i*(λt=>y (rkU U n+sd1 t)) (s i)) n:=uv λi hi=>by
   by_cases hu:U i=true
   ·rw[hg i hi hu]
   ·have:spU U y i=0:=aI hu;rw[this,Az,Az]
  rw[e,aK9 n s (spU U y) (λt=>y (rkU U n+sd1 t)),jY,jY];grind
 have hz:=hi (spU U y) (λi _ hu=>aI hu) jY λj hj=>aNS hf j hj;intro c hc;by_cases uF:c<rkU U n
 ·obtain⟨h1,h2,h3⟩:=aQm uF;have:=hz _ h1;unfold spU at this;rw[aV h2,h3] at this;exact this
 ·obtain⟨t,ht⟩:∃t,c=rkU U n+sd1 t:=by
   rcases cM c (rkU U n+1) with h1 | h1
   ·exact⟨false,by show c=_+0;omega⟩
   ·exact⟨true,by show c=_+1;omega⟩
  obtain⟨i,h1,h2,h3⟩:=hs t;have h4:=hg i h1 h3;have h5:gMg n w v (spU U y) i=0:=by rw[aJe (b:=λ_=>0) hz];unfold gMg;rw[aDw];exact aIO (λj _=>acj λi _=>Az _) _
  rw[ht,<-h2,<-h4,h5]
theorem aTa (hi:aBb n w v s λi=>U i=true) (hs:∀t,∃i,i<n/\s i=t/\U i=true):(rr (rkU U n+2) (kkF w v s (rU U n) (rkU U n)) (rkU U n+2)).2.length=rkU U n+2:=afN λ_ hy=>aVS hi hs hy
theorem aR8 (hi:aBb n w v s λi=>U i=true):rkU U n<=w+2:=by
 refine Lm λaU=>?_;let F:Nat->Nat->Rat:=λa k=>if a<w then v (rU U n k) a else if a=w then (if s (rU U n k)=true then 1 else 0) else if a=w+1 then (if s (rU U n k)=false then 1 else 0) else 0
 have hz:aty (rkU U n) F=0:=by
  have h1:∀j,F (w+2) j=0:=λj=>by show(if w+2<w then _ else _)=_;rw[aI (by omega),aI (by omega),aI (by omega)]
  have h2:=acH (F:=F) (r:=w+2) (n:=rkU U n) (by omega) 0;rw[Az] at h2;rw[<-h2];refine aag λi j _ _=>?_;unfold wa;by_cases e:i=w+2
  ·rw[aV e,e,h1 j,Az]
  ·rw[aI e]
 refine afd.2 (afN λy hy=>?_) hz;have key:∀h:Nat->Rat,apV (λk=>y k*h (rU U n k)) (rkU U n)=apV (λi=>spU U y i*h i) n:=λh=>(aPe U y h n).symm;have hr:∀a,a<rkU U n->apV (λk=>F a k*y k) (rkU U n)=0:=hy;have h1:∀j,j<w->dMg n v (spU U y) j=0:=λj hj=>by have:=hr j (by omega);unfold dMg;rw[<-key λi=>v i j,<-this];exact uv λk _=>by show _=(if j<w then _ else _)*_;rw[aV hj];exact CT _ _
 have h2:∀t,sdS n s t (spU U y)=0:=λt=>by
  rw[aQo]
  cases t with
  | true=>refine Eq.trans ?_ (hr w (by omega));exact uv λk _=>by show _=(if w<w then _ else if w=w then _ else _)*_;rw[aI (yq w),aV rfl];exact CT _ _
  | false=>refine Eq.trans ?_ (hr (w+1) (by omega));exact uv λk _=>by show _=(if w+1<w then _ else if w+1=w then _ else if w+1=w+1 then _ else _)*_;rw[aI (show ¬w+1<w by omega),aI (show ¬w+1=w by omega),aV rfl];exact CT _ _
 have h3:=hi (spU U y) (λi _ hu=>aI hu) h2 h1;intro k hk;obtain⟨a1,a2,a3⟩:=aQm hk;have:=h3 _ a1;unfold spU at this;rw[aV a2,a3] at this;exact this
end Go.Proofs.YtlijkeolpmgioaaGreatDoor.AM
namespace Go.Proofs.YtlijkeolpmgioaaGreatDoor.AM
def a4R:Nat->List (List Bool)
 | 0=>[[]]
 | n+1=>(a4R n).map (· ++ [true])++(a4R n).map (· ++ [false])
theorem aRw (f:Nat->Bool):∀n,aA n f∈a4R n
 | 0=>by rw[aUu];exact nS.2 rfl
 | n+1=>by
  have ih:=aRw f n;rw[tI];unfold a4R;rw[Av]
  cases h:f n with
  | true=>exact .inl (KR.2 ⟨_,ih,rfl⟩)
  | false=>exact .inr (KR.2 ⟨_,ih,rfl⟩)
open Classical in
noncomputable def aq6 {α:Type} (P:α->Prop):List α->Nat
 | []=>0
 | x::l=>(if P x then 1 else 0)+aq6 P l
theorem aCN {α:Type} {P Q:α->Prop} (h:∀x,P x->Q x):∀l:List α,aq6 P l<=aq6 Q l
 | []=>bF _
 | x::l=>by
  have ih:=aCN h l;unfold aq6;by_cases hp:P x
  ·rw[aV hp,aV (h x hp)];omega
  ·rw[aI hp];omega
theorem aTb {α:Type} {P Q:α->Prop} (h:∀x,P x->Q x):∀l:List α,(∃x∈l,Q x/\¬P x)->aq6 P l<aq6 Q l
 | [],⟨_,hx,_⟩=>absurd hx yi
 | x::l,⟨y,hy,hq,hp⟩=>by
  have hle:=aCN h l;unfold aq6;rcases uY.1 hy with e | hy
  ·subst e;rw[aI hp,aV hq];omega
  ·have ih:=aTb h l ⟨y,hy,hq,hp⟩;by_cases hp':P x
   ·rw[aV hp',aV (h x hp')];omega
   ·rw[aI hp'];omega
variable {n w:Nat} {v:Nat->Nat->Rat} {s:Nat->Bool} {b:Nat->Rat} {lm:Bool->Rat}
def suL (n:Nat) (b:Nat->Rat):List Bool:=aA n λi=>decide (0<b i)
noncomputable def muW (n w:Nat) (v:Nat->Nat->Rat) (s:Nat->Bool) (b:Nat->Rat):Nat:=aq6 (λT=>∃c,HdW n w v s c/\suL n c=T/\fMg n w v c<fMg n w v b) (a4R n)
theorem HdW.zero (h:HdW n w v s b) {i:Nat} (hn:¬0<b i):b i=0:=by have:=h.nn i;grind
theorem aU3 {c:Nat->Rat} (h:HdW n w v s b) (k:HdW n w v s c) (e:suL n c=suL n b):fMg n w v b<=fMg n w v c:=by
 have hs:∀i,i<n->(0<c i↔0<b i):=λi hi=>by have h1:=GI (λl=>l.getD i false) e;unfold suL at h1;rw[fW hi,fW hi] at h1;exact yw.1 h1
 obtain⟨lm,hk⟩:=h.kk;obtain⟨mu,sF⟩:=k.kk;have:=hk.opt (c:=c) (λi hi hn=>k.zero λhp=>hn ((hs i hi).1 hp)) sF.sum;have:=aNb n w v λi=>c i-b i;grind
theorem aVT {b':Nat->Rat} (h':HdW n w v s b') (h:fMg n w v b'<fMg n w v b):muW n w v s b'<muW n w v s b:=by refine aTb (λT ⟨c,h1,h2,h3⟩=>⟨c,h1,h2,by grind⟩) _ ⟨suL n b',aRw _ n,⟨b',h',rfl,h⟩,λ⟨c,h1,h2,h3⟩=>?_⟩;have:=aU3 h' h1 h2;grind
structure OpW (n w:Nat) (v:Nat->Nat->Rat) (s:Nat->Bool) (b:Nat->Rat) (lm:Bool->Rat):Prop where
 nn:∀i,i<n->0<=b i
 sum:∀t,sdS n s t b=1
 act:∀i,i<n->0<b i->gMg n w v b i=lm (s i)
 all:∀i,i<n->lm (s i)<=gMg n w v b i
theorem HdW.op (h:HdW n w v s b) (k:KkW n w v s (λi=>0<b i) b lm) (ha:∀i,i<n->¬gMg n w v b i<lm (s i)):OpW n w v s b lm:=⟨λi _=>h.nn i,k.sum,k.kk,λi hi=>Rat.not_lt.1 (ha i hi)⟩
theorem aOl {N k:Nat} (hk:k<N) (x:Nat->Rat):∀m,m<=N->aty N (setRow iP k λc=>if c<m then x c else 0)=if k<m then x k else 0
 | 0,_=>by
  rw[aI (ia k)];have h2:=acH (F:=setRow iP k λc=>if c<0 then x c else 0) (r:=k) hk 0;rw[Az] at h2;refine Eq.trans (aag λi j _ _=>?_) h2;unfold wa setRow;by_cases e:i=k
  ·rw[aV e,aV e,aI (ia j),Az]
  ·rw[aI e,aI e]
 | m+1,hm=>by
  have ih:=aOl hk x m (by omega);have e:aty N (setRow iP k λc=>if c<m+1 then x c else 0)=aty N (setRow iP k λc=>(if c<m then x c else 0)+x m*iP m c):=aag λi c _ _=>by
   unfold setRow;by_cases hi:i=k
   ·rw[aV hi,aV hi];unfold iP;by_cases h1:c<m
    ·rw[aV (by omega),aV h1,aI (by omega)];grind
    ·by_cases h2:m=c
     ·subst h2;rw[aV (by omega),aI h1,aV rfl];grind
     ·rw[aI (by omega),aI h1,aI h2];grind
   ·rw[aI hi,aI hi]
  rw[e,acZ hk,ih];by_cases jb:k=m
  ·subst jb;have e2:setRow iP k (iP k)=iP:=funext λi=>by
    unfold setRow;by_cases hi:i=k
    ·rw[aV hi,hi]
    ·rw[aI hi]
   rw[e2,ach,aI (yq k),aV (tS k)];grind
  ·have h0:aty N (setRow iP k (iP m))=0:=agL (a:=k) (b:=m) hk (by omega) jb (by
    unfold setRow;rw[aV rfl,aI λh=>jb h.symm])
   rw[h0];by_cases h1:k<m
   ·rw[aV h1,aV (by omega)];grind
   ·rw[aI h1,aI (by omega)];grind
theorem aVU {N k:Nat} {A:Nat->Nat->Rat} {c x:Nat->Rat} (h:∀i,i<N->apV (λj=>A i j*x j) N=c i) (hk:k<N):aty N (λi j=>if j=k then c i else A i j)=x k*aty N A:=by
 have e1:aty N (λi j=>if j=k then c i else A i j)=aty N (dw A (aby (setRow iP k x)) N):=aag λi j hi hj=>by
  rw[abt];unfold aby setRow;by_cases e:j=k
  ·rw[aV e,<-h i hi];exact uv λt _=>by rw[aV e]
  ·rw[aI e];refine(aeX (A i) hj).symm.trans (uv λt _=>?_);rw[aI e];unfold iP;by_cases e2:t=j
   ·rw[aV e2,aV e2.symm]
   ·rw[aI e2,aI λe3=>e2 e3.symm]
 have e2:aty N (setRow iP k x)=x k:=by
  have h1:=aOl hk x N (bF N);rw[aV hk] at h1;rw[<-h1];refine aag λi j _ hj=>?_;unfold setRow;by_cases e:i=k
  ·rw[aV e,aV e,aV hj]
  ·rw[aI e,aI e]
 rw[e1,aeQ,ahG,e2,CT]
theorem aTc {k:Nat} {f:Nat->Rat}:∀{m:Nat},(∀i,i<m->∃z:Int,z.natAbs<2^k/\f i=(z:Rat))->∃z:Int,z.natAbs<=m*2^k/\apV f m=(z:Rat)
 | 0,_=>⟨0,by simp,rfl⟩
 | m+1,h=>by
  obtain⟨z,h1,h2⟩:=aTc (m:=m) λi hi=>h i (by omega);obtain⟨y,h3,h4⟩:=h m (by omega);refine⟨z+y,?_,?_⟩
  ·have:=Int.natAbs_add_le z y;rw[pv,tO];omega
  ·show apV f m+f m=_;rw[h2,h4,Rat.intCast_add]
theorem aQL {k:Nat} (D:Rat):∀{N:Nat} {F:Nat->Nat->Rat},N<=15->(∀i j,∃z:Int,z.natAbs<2^k/\F i j*D=(z:Rat))->∃z:Int,z.natAbs<2^(N*(k+4)+1)/\aty N F*D^N=(z:Rat)
 | 0,F,_,_=>⟨1,by rw[yx];decide,by rw[Rat.pow_zero,NJ];rfl⟩
 | N+1,F,hN,h=>by
  obtain⟨z,h1,h2⟩:=aTc (k:=k+(N*(k+4)+1)) (f:=λi=>sgn i*F i 0*aty N (aae F i)*D^(N+1)) (m:=N+1) λi _=>by
   obtain⟨y,a1,a2⟩:=h i 0;obtain⟨x,b1,b2⟩:=aQL D (N:=N) (F:=aae F i) (by omega) λa c=>h _ _;have hm:(y*x).natAbs<2^(k+(N*(k+4)+1)):=by rw[yk,pN];exact Nat.mul_lt_mul'' a1 b1
   have e:F i 0*aty N (aae F i)*D^(N+1)=((y*x:Int):Rat):=by rw[Hr,<-a2,<-b2,Rat.pow_succ];grind
   by_cases hs:i%2=0
   ·refine⟨y*x,hm,?_⟩;show sgn i*F i 0*aty N (aae F i)*D^(N+1)=_;have:sgn i=1:=aV hs;rw[this,<-e];grind
   ·refine⟨-(y*x),by rw[LX];exact hm,?_⟩;show sgn i*F i 0*aty N (aae F i)*D^(N+1)=_;have:sgn i = -1:=aI hs;rw[this,Mr,<-e];grind
  refine⟨z,?_,?_⟩
  ·refine Aw h1 ?_;have e:2^((N+1)*(k+4)+1)=16*2^(k+(N*(k+4)+1)):=by
    rw[show(N+1)*(k+4)+1=(k+(N*(k+4)+1))+4 by rw[pv];omega,pN,iR]
   rw[e];exact yn (by omega) (Nat.two_pow_pos _)
  ·rw[<-h2];show apV (λi=>sgn i*F i 0*aty N (aae F i)) (N+1)*D^(N+1)=_;rw[CT,<-abC];exact uv λi _=>CT _ _
theorem aUx {k N:Nat} {D:Rat} {A:Nat->Nat->Rat} {c x:Nat->Rat} (hD:D≠0) (hN:N<=15) (hA:∀i j,∃z:Int,z.natAbs<2^k/\A i j*D=(z:Rat)) (hc:∀i,∃z:Int,z.natAbs<2^k/\c i*D=(z:Rat))
  (h:∀i,i<N->apV (λj=>A i j*x j) N=c i) (hd:aty N A≠0) {j:Nat} (hj:j<N):∃z y:Int,z.natAbs<2^(N*(k+4)+1)/\y.natAbs<2^(N*(k+4)+1)/\y≠0/\x j=(z:Rat)/(y:Rat):=by
 obtain⟨y,h1,h2⟩:=aQL D hN hA
 obtain⟨z,h3,h4⟩:=aQL (F:=λa b=>if b=j then c a else A a b) D hN λa b=>by
  by_cases e:b=j
  ·obtain⟨z,h5,h6⟩:=hc a;exact⟨z,h5,by (try dsimp only);rw[aV e];exact h6⟩
  ·obtain⟨z,h5,h6⟩:=hA a b;exact⟨z,h5,by (try dsimp only);rw[aI e];exact h6⟩
 rw[aVU h hj] at h4
 have hp:D^N≠0:=by
  have:∀m:Nat,D^m≠0:=λm=>by
   induction m with
   | zero=>rw[Rat.pow_zero];grind
   | succ m ih=>rw[Rat.pow_succ];exact λe=>(G5.1 e).elim ih hD
  exact this N
 have hy:(y:Rat)≠0:=by rw[<-h2];exact λe=>(G5.1 e).elim hd hp
 refine⟨z,y,h3,h1,λe=>hy (by rw[e];rfl),?_⟩
 have e:x j*(y:Rat)=(z:Rat):=by rw[<-h2,<-h4];grind
 rw[<-e,GX,Rat.mul_assoc,KZ _ hy,NJ]
end Go.Proofs.YtlijkeolpmgioaaGreatDoor.AM
namespace Go.Proofs.YtlijkeolpmgioaaGreatDoor.AM
def ub (us:List Bool) (i:Nat):Bool:=us.getD i false
def cw (b:List Rat) (i:Nat):Rat:=b.getD i 0
theorem aXR {us:List Bool} {i:Nat} (h:ub us i=true):i<us.length:=Nat.lt_of_not_le λhn=>by
 unfold ub at h;rw[au,iY hn] at h
 cases h
theorem aPf {us:List Bool} {i:Nat} (h:us.length<=i):ub us i=false:=by unfold ub;rw[au,iY h];rfl
theorem aPg {b:List Rat} {i:Nat} (h:b.length<=i):cw b i=0:=by unfold cw;rw[au,iY h];rfl
theorem aU4 {n i:Nat} {f:Nat->Bool} (h:i<n):ub (aA n f) i=f i:=fW h _
theorem aU5 {n i:Nat} {f:Nat->Rat} (h:i<n):cw (aA n f) i=f i:=fW h _
theorem aR9 {n:Nat} {f:Nat->Rat} (h:∀i,n<=i->f i=0):cw (aA n f)=f:=funext λi=>by
 rcases cM i n with hi | hi
 ·exact aU5 hi
 ·rw[aPg (by rw[mX];exact hi),h i hi]
theorem aSa {n:Nat} {f:Nat->Bool} (h:∀i,n<=i->f i=false):ub (aA n f)=f:=funext λi=>by
 rcases cM i n with hi | hi
 ·exact aU4 hi
 ·rw[aPf (by rw[mX];exact hi),h i hi]
variable {n w:Nat} {v:Nat->Nat->Rat} {s:Nat->Bool}
noncomputable def aOm (n w:Nat) (v:Nat->Nat->Rat) (s U:Nat->Bool):Nat->Rat:=spU U (ak8 (rkU U n+2) (rkU U n+2) (kkF w v s (rU U n) (rkU U n)) (kkB (rkU U n)))
theorem aIw {U:Nat->Bool} {b:Nat->Rat} (h:InW n w v s U b) (t:Bool):∃i,i<n/\s i=t/\U i=true:=Gb λhn=>by
 have:sdS n s t b=0:=acj λi hi=>by
  by_cases e:s i=t
  ·rw[aV e];exact h.off hi λhu=>hn ⟨i,hi,e,hu⟩
  ·rw[aI e]
 rw[h.sum] at this;grind
theorem aOt {U:Nat->Bool} (hi:aBb n w v s λi=>U i=true) (hs:∀t,∃i,i<n/\s i=t/\U i=true) :
  ajj (rkU U n+2) (rkU U n+2) (kkF w v s (rU U n) (rkU U n)) (kkB (rkU U n))=true/\∀a,a<rkU U n+2->apV (λc=>kkF w v s (rU U n) (rkU U n) a c*ak8 (rkU U n+2) (rkU U n+2) (kkF w v s (rU U n) (rkU U n)) (kkB (rkU U n)) c) (rkU U n+2)=kkB (rkU U n) a:=by
 have hf:=aTa hi hs
 generalize kkF w v s (rU U n) (rkU U n)=A at *
 generalize kkB (rkU U n)=c at *
 generalize rkU U n+2=N at *
 have h1:ajj N N A c=true:=amB (x:=λj=>apV (λk=>abW N A j k*c k) N) λi hi=>by
  have h2:=agU hf;have e:apV (λj=>A i j*apV (λk=>abW N A j k*c k) N) N=apV (λk=>dw A (abW N A) N i k*c k) N:=by have e1:apV (λj=>A i j*apV (λk=>abW N A j k*c k) N) N=apV (λj=>apV (λk=>A i j*(abW N A j k*c k)) N) N:=uv λj _=>(abC _ _ _).symm;rw[e1,akN];refine uv λk _=>?_;rw[abt,CT,<-abC];exact uv λj _=>by grind
  rw[e];refine Eq.trans (uv λk hk=>by rw[h2 i k hi hk]) (aef c hi)
 exact⟨h1,ak9 h1⟩
theorem aUi {U:Nat->Bool} (hi:aBb n w v s λi=>U i=true) (hs:∀t,∃i,i<n/\s i=t/\U i=true):∃lm,KkW n w v s (λi=>U i=true) (aOm n w v s U) lm:=⟨_,aVR (aOt hi hs).2⟩
theorem aUy {U:Nat->Bool} {k:Nat} {D:Rat} (hD:D≠0) (hw:w<=11) (hi:aBb n w v s λi=>U i=true) (hs:∀t,∃i,i<n/\s i=t/\U i=true) (hG:∀i j,∃z:Int,z.natAbs<2^k/\gmM w v i j*D=(z:Rat)) (hDz:∃z:Int,z.natAbs<2^k/\D=(z:Rat)) {i:Nat} (n0:i<n) :
  aOm n w v s U i=0\/∃z y:Int,z.natAbs<2^((w+4)*(k+4)+1)/\y.natAbs<2^((w+4)*(k+4)+1)/\y≠0/\aOm n w v s U i=(z:Rat)/(y:Rat):=by
 unfold aOm spU
 by_cases hu:U i=true
 ·rw[aV hu]
  have hr:rkU U i<rkU U n+2:=by have:=(aR7 n0 hu).1;omega
  refine .inr ?_
  have a1W:=aR8 hi
  obtain⟨zD,d1,d2⟩:=hDz
  have one:∀x:Rat,(x=0\/x=1\/x = -1)->∃z:Int,z.natAbs<2^k/\x*D=(z:Rat):=λx hx=>by
   rcases hx with rfl | rfl | rfl
   ·exact⟨0,Nat.two_pow_pos _,by rw[Az];rfl⟩
   ·exact⟨zD,d1,by rw[Hf];exact d2⟩
   ·exact⟨-zD,by rw[LX];exact d1,by rw[Mr,<-d2];grind⟩
  obtain⟨z,y,h1,h2,h3,h4⟩:=aUx (k:=k) hD (show rkU U n+2<=15 by omega) (A:=kkF w v s (rU U n) (rkU U n)) (λa c=>by
   unfold kkF;by_cases h1:a<rkU U n
   ·rw[aV h1];by_cases h2:c<rkU U n
    ·rw[aV h2];exact hG _ _
    ·rw[aI h2];split
     ·exact one _ (.inr (.inr rfl))
     ·exact one _ (.inl rfl)
   ·rw[aI h1];split
    ·split
     ·exact one _ (.inr (.inl rfl))
     ·exact one _ (.inl rfl)
    ·exact one _ (.inl rfl)) (c:=kkB (rkU U n)) (λa=>by
   unfold kkB;split
   ·exact one _ (.inl rfl)
   ·exact one _ (.inr (.inl rfl))) (aOt hi hs).2 (afd.2 (aTa hi hs)) hr
  have hm:2^((rkU U n+2)*(k+4)+1)<=2^((w+4)*(k+4)+1):=jW (by omega) (by have:=fh (k+4) (show rkU U n+2<=w+4 by omega);omega)
  exact⟨z,y,gA h1 hm,gA h2 hm,h3,h4⟩
 ·rw[aI hu];exact .inl rfl
end Go.Proofs.YtlijkeolpmgioaaGreatDoor.AM
namespace Go.Proofs.YtlijkeolpmgioaaGreatDoor.AM
variable {n w:Nat} {v:Nat->Nat->Rat} {s:Nat->Bool}
theorem aSb (U:Nat->Bool):∀n,rkU U n<=n
 | 0=>bF _
 | n+1=>by
  have:=aSb U n;by_cases h:U n=true
  ·rw[avJ h];omega
  ·rw[aDb h];omega
theorem aUk {U U':Nat->Bool} (h:∀i,U' i=true->U i=true):∀n,rkU U' n<=rkU U n
 | 0=>bF _
 | n+1=>by
  have ih:=aUk h n;by_cases h1:U' n=true
  ·rw[avJ h1,avJ (h n h1)];omega
  ·rw[aDb h1];by_cases h2:U n=true
   ·rw[avJ h2];omega
   ·rw[aDb h2];exact ih
theorem aU6 {U U':Nat->Bool} (h:∀i,U' i=true->U i=true):∀n,(∃i,i<n/\U i=true/\U' i=false)->rkU U' n<rkU U n
 | 0,⟨i,hi,_⟩=>absurd hi (ia i)
 | n+1,⟨i,hi,h1,h2⟩=>by
  have hs:=aUk h n;by_cases e:i=n
  ·subst e;rw[avJ h1,aDb (by rw[h2];decide)];omega
  ·have ih:=aU6 h n ⟨i,by omega,h1,h2⟩;by_cases h3:U' n=true
   ·rw[avJ h3,avJ (h n h3)];omega
   ·rw[aDb h3];by_cases h4:U n=true
    ·rw[avJ h4];omega
    ·rw[aDb h4];exact ih
noncomputable def aoQ (n w:Nat) (v:Nat->Nat->Rat) (s:Nat->Bool) (us:List Bool):List Rat:=aA n (aOm n w v s (ub us))
def twX (b t:List Rat) (us:List Bool):Rat:=stW (ub us) (cw b) (cw t) b.length
def twB (b t:List Rat) (us:List Bool):List Rat:=aA b.length (nxW (ub us) (cw b) (cw t) (twX b t us))
def twU (b t:List Rat) (us:List Bool):List Bool:=aA us.length (nuW (ub us) (cw (twB b t us)))
structure InL (n w:Nat) (v:Nat->Nat->Rat) (s:Nat->Bool) (us:List Bool) (b:List Rat):Prop where
 lb:b.length=n
 lu:us.length=n
 st:InW n w v s (ub us) (cw b)
theorem aSc {b t:List Rat} {us:List Bool} (h:us.length=b.length):cw (twB b t us)=nxW (ub us) (cw b) (cw t) (twX b t us):=aR9 λi hi=>by unfold nxW;rw[aPf (by omega),aI (by decide),aPg hi]
theorem aVV {b t:List Rat} {us:List Bool}:ub (twU b t us)=nuW (ub us) (cw (twB b t us)):=aSa λi hi=>by unfold nuW;rw[aPf hi,aI (by decide)]
theorem aU7 {us:List Bool} (h:us.length=n):cw (aoQ n w v s us)=aOm n w v s (ub us):=aR9 λi hi=>by unfold aOm spU;rw[aPf (by omega),aI (by decide)]
theorem InL.step {us:List Bool} {b:List Rat} (h:InL n w v s us b):∃lm,KkW n w v s (λi=>ub us i=true) (cw (aoQ n w v s us)) lm/\StW (ub us) (cw b) (cw (aoQ n w v s us)) n (twX b (aoQ n w v s us) us) /\
  cw (twB b (aoQ n w v s us) us)=nxW (ub us) (cw b) (cw (aoQ n w v s us)) (twX b (aoQ n w v s us) us):=by
 obtain⟨lm,hk⟩:=aUi h.st.ind (aIw h.st)
 rw[<-aU7 h.lu] at hk
 have hx:StW (ub us) (cw b) (cw (aoQ n w v s us)) n (twX b (aoQ n w v s us) us):=by have:=aUc (U:=ub us) (t:=cw (aoQ n w v s us)) h.st.nn b.length;rw[h.lb] at this;unfold twX;rw[h.lb];exact this
 exact⟨lm,hk,hx,aSc (by rw[h.lu,h.lb])⟩
theorem InL.lt {us:List Bool} {b:List Rat} (h:InL n w v s us b):∀i,ub us i=true->i<n:=λi hi=>by have:=aXR hi;have:=h.lu;omega
theorem InL.all {us:List Bool} {b:List Rat} (h:InL n w v s us b) (h1:twX b (aoQ n w v s us) us=1):HdW n w v s (cw (twB b (aoQ n w v s us) us)):=by obtain⟨lm,hk,hx,e⟩:=h.step;rw[e,h1];rw[h1] at hx;exact aU0 h.st hk hx h.lt
theorem InL.next {us:List Bool} {b:List Rat} (h:InL n w v s us b) (h1:twX b (aoQ n w v s us) us≠1) :
  InL n w v s (twU b (aoQ n w v s us) us) (twB b (aoQ n w v s us) us)/\rkU (ub (twU b (aoQ n w v s us) us)) n<rkU (ub us) n:=by
 obtain⟨lm,hk,hx,e⟩:=h.step
 have aU:twX b (aoQ n w v s us) us<1:=by have:=hx.le;grind
 obtain⟨a1,a2,a3⟩:=aXP h.st hk hx h.lt aU
 rw[<-e] at a1 a2 a3
 rw[<-aVV] at a1 a2 a3
 exact⟨⟨by unfold twB;rw[mX];exact h.lb,by unfold twU;rw[mX];exact h.lu,a1⟩,aU6 a2 n a3⟩
theorem InL.le {us:List Bool} {b:List Rat} (h:InL n w v s us b):fMg n w v (cw (twB b (aoQ n w v s us) us))<=fMg n w v (cw b):=by obtain⟨lm,hk,hx,e⟩:=h.step;rw[e];exact aXO h.st hk hx
noncomputable def aDk (n w:Nat) (v:Nat->Nat->Rat) (s:Nat->Bool):Nat->List Bool->List Rat->List Rat
 | 0,_,b=>b
 | k+1,us,b=>if twX b (aoQ n w v s us) us=1 then twB b (aoQ n w v s us) us else aDk n w v s k (twU b (aoQ n w v s us) us) (twB b (aoQ n w v s us) us)
theorem InL.pos {us:List Bool} {b:List Rat} (h:InL n w v s us b):0<rkU (ub us) n:=by obtain⟨i,hi,_,hu⟩:=aIw h.st true;have:=(aR7 hi hu).1;omega
theorem aUl:∀(k:Nat) {us:List Bool} {b:List Rat},InL n w v s us b->rkU (ub us) n<=k->HdW n w v s (cw (aDk n w v s k us b))/\(aDk n w v s k us b).length=n/\fMg n w v (cw (aDk n w v s k us b))<=fMg n w v (cw (twB b (aoQ n w v s us) us))
 | 0,us,b,h,hk=>absurd h.pos (by omega)
 | k+1,us,b,h,hk=>by
  unfold aDk;by_cases h1:twX b (aoQ n w v s us) us=1
  ·rw[aV h1];exact⟨h.all h1,by unfold twB;rw[mX];exact h.lb,NI⟩
  ·rw[aI h1];obtain⟨h2,h3⟩:=h.next h1;obtain⟨h4,h5,h6⟩:=aUl k h2 (by omega);exact⟨h4,h5,Rat.le_trans h6 h2.le⟩
theorem aRx:∀(k m:Nat) {us:List Bool} {b:List Rat},InL n w v s us b->rkU (ub us) n<=k->rkU (ub us) n<=m->aDk n w v s k us b=aDk n w v s m us b
 | 0,_,us,b,h,hk,_=>absurd h.pos (by omega)
 | _,0,us,b,h,_,hm=>absurd h.pos (by omega)
 | k+1,m+1,us,b,h,hk,hm=>by
  unfold aDk;by_cases h1:twX b (aoQ n w v s us) us=1
  ·rw[aV h1,aV h1]
  ·rw[aI h1,aI h1];obtain⟨h2,h3⟩:=h.next h1;exact aRx k m h2 (by omega) (by omega)
def hiW (n w:Nat) (v:Nat->Nat->Rat) (s:Nat->Bool) (b:Nat->Rat) (t:Bool):Rat:=apV (λi=>if s i=t then b i*gMg n w v b i else 0) n
def aNc (n w:Nat) (v:Nat->Nat->Rat) (s:Nat->Bool) (b:Nat->Rat):Nat->Option Nat
 | 0=>none
 | k+1=>match aNc n w v s b k with
  | some r=>some r
  | none=>if gMg n w v b k<hiW n w v s b (s k) then some k else none
theorem aNU {b:Nat->Rat}:∀{k r:Nat},aNc n w v s b k=some r->r<k/\gMg n w v b r<hiW n w v s b (s r)
 | 0,r,h=>by cases h
 | k+1,r,h=>by
  unfold aNc at h;split at h
  ·rename_i r' hr;injection h with h
   subst h;obtain⟨h1,h2⟩:=aNU hr;exact⟨by omega,h2⟩
  ·split at h
   ·rename_i hk;injection h with h
    subst h;exact⟨tS _,hk⟩
   ·cases h
theorem aRy {b:Nat->Rat}:∀{k:Nat},aNc n w v s b k=none->∀i,i<k->¬gMg n w v b i<hiW n w v s b (s i)
 | 0,_,i,hi=>absurd hi (ia i)
 | k+1,h,i,hi=>by
  unfold aNc at h;split at h
  ·cases h
  ·rename_i hn;split at h
   ·cases h
   ·rename_i hk;rcases cM i k with h1 | h1
    ·exact aRy hn i h1
    ·rw[show i=k by omega];exact hk
theorem aU9 {b:Nat->Rat} {lm:Bool->Rat} (h:HdW n w v s b) (k:KkW n w v s (λi=>0<b i) b lm) (t:Bool):hiW n w v s b t=lm t:=by
 have e:hiW n w v s b t=apV (λi=>lm t*(if s i=t then b i else 0)) n:=uv λi hi=>by
  by_cases ht:s i=t
  ·rw[aV ht,aV ht];by_cases hp:0<b i
   ·rw[k.kk i hi hp,ht,CT]
   ·rw[h.zero hp,Az,Lg]
  ·rw[aI ht,aI ht,Lg]
 rw[e,abC];have:=k.sum t;unfold sdS at this;rw[this,NJ]
def aBx (n:Nat) (b:List Rat) (r:Nat):List Bool:=aA n λi=>decide (0<cw b i)||decide (i=r)
noncomputable def aZH (n w:Nat) (v:Nat->Nat->Rat) (s:Nat->Bool):Nat->List Rat->List Rat
 | 0,b=>b
 | k+1,b=>match aNc n w v s (cw b) n with
  | some r=>aZH n w v s k (aDk n w v s n (aBx n b r) b)
  | none=>b
theorem aVd {b:List Rat} {r:Nat} (hb:b.length=n) (hr:r<n):ub (aBx n b r)=λi=>decide (0<cw b i)||decide (i=r):=aSa λi hi=>by rw[aPg (by omega),eJ (by grind),eJ (by omega)];rfl
theorem aUm {b:List Rat} {r:Nat} (hb:b.length=n) (h:HdW n w v s (cw b)) (hr:aNc n w v s (cw b) n=some r):InL n w v s (aBx n b r) b/\fMg n w v (cw (twB b (aoQ n w v s (aBx n b r)) (aBx n b r)))<fMg n w v (cw b):=by
 obtain⟨h1,h2⟩:=aNU hr;obtain⟨lm,hk⟩:=h.kk;rw[aU9 h hk] at h2;have e:=aVd (b:=b) hb h1;have hI:InL n w v s (aBx n b r) b:=⟨hb,by unfold aBx;rw[mX],by rw[e];exact(aU1 h h1 hk h2).2⟩
 refine⟨hI,?_⟩;obtain⟨mu,k2,hx,e2⟩:=hI.step;rw[e2];rw[e] at k2 hx ⊢;exact aU2 h h1 hk h2 k2 hx
theorem aLh {b:List Rat} {r:Nat} (hb:b.length=n) (h:HdW n w v s (cw b)) (hr:aNc n w v s (cw b) n=some r):HdW n w v s (cw (aDk n w v s n (aBx n b r) b))/\(aDk n w v s n (aBx n b r) b).length=n/\muW n w v s (cw (aDk n w v s n (aBx n b r) b))<muW n w v s (cw b):=by obtain⟨h1,h2⟩:=aUm hb h hr;obtain⟨h3,h4,h5⟩:=aUl n h1 (aSb _ n);exact⟨h3,h4,aVT h3 (by grind)⟩
theorem aSe:∀(k:Nat) {b:List Rat},b.length=n->HdW n w v s (cw b)->muW n w v s (cw b)<k->HdW n w v s (cw (aZH n w v s k b))/\(aZH n w v s k b).length=n/\aNc n w v s (cw (aZH n w v s k b)) n=none
 | 0,b,_,_,hk=>absurd hk (ia _)
 | k+1,b,hb,h,hk=>by
  unfold aZH;split
  ·rename_i r hr;obtain⟨h1,h2,h3⟩:=aLh hb h hr;exact aSe k h2 h1 (by omega)
  ·rename_i hr;exact⟨h,hb,hr⟩
theorem aRz:∀(k m:Nat) {b:List Rat},b.length=n->HdW n w v s (cw b)->muW n w v s (cw b)<k->muW n w v s (cw b)<m->aZH n w v s k b=aZH n w v s m b
 | 0,_,b,_,_,hk,_=>absurd hk (ia _)
 | _,0,b,_,_,_,hm=>absurd hm (ia _)
 | k+1,m+1,b,hb,h,hk,hm=>by
  unfold aZH;split
  ·rename_i r hr;obtain⟨h1,h2,h3⟩:=aLh hb h hr;exact aRz k m h2 h1 (by omega) (by omega)
  ·rfl
noncomputable def aNd (n w:Nat) (v:Nat->Nat->Rat) (s:Nat->Bool) (b:List Rat):List Rat:=aZH n w v s (muW n w v s (cw b)+1) b
theorem aUz {b:List Rat} (hr:aNc n w v s (cw b) n=none):aNd n w v s b=b:=by unfold aNd aZH;rw[hr]
theorem aUA {b:List Rat} {r:Nat} (hb:b.length=n) (h:HdW n w v s (cw b)) (hr:aNc n w v s (cw b) n=some r):aNd n w v s b=aNd n w v s (aDk n w v s n (aBx n b r) b):=by
 obtain⟨h1,h2,h3⟩:=aLh hb h hr;conv=>lhs;unfold aNd aZH
 rw[hr];exact aRz _ _ h2 h1 h3 (tS _)
theorem aVW {b:List Rat} (hb:b.length=n) (h:HdW n w v s (cw b)):∃lm,OpW n w v s (cw (aNd n w v s b)) lm/\(aNd n w v s b).length=n:=by obtain⟨h1,h2,h3⟩:=aSe _ hb h (tS _);obtain⟨lm,hk⟩:=h1.kk;exact⟨lm,h1.op hk λi hi hl=>aRy h3 i hi (by rw[aU9 h1 hk];exact hl),h2⟩
def stB (n i0 i1:Nat):List Rat:=aA n λi=>if i=i0\/i=i1 then 1 else 0
theorem aXS {i0 i1:Nat} (h0:i0<n) (h1:i1<n) (s0:s i0=false) (s1:s i1=true):HdW n w v s (cw (stB n i0 i1)):=by
 have ay:i0≠i1:=λe=>by rw[e,s1] at s0;cases s0
 have e:cw (stB n i0 i1)=λi=>if i=i0\/i=i1 then 1 else 0:=aR9 λi hi=>aI (by omega)
 rw[e];have hp:∀i,(0:Rat)<(if i=i0\/i=i1 then 1 else 0)↔i=i0\/i=i1:=λi=>by
  by_cases hi:i=i0\/i=i1
  ·rw[aV hi];exact⟨λ_=>hi,λ_=>by grind⟩
  ·rw[aI hi];exact⟨λh=>absurd h (by grind),λh=>absurd h hi⟩
 have aVe:∀(c:Nat->Rat),(∀i,i<n->¬(i=i0\/i=i1)->c i=0)->∀t,sdS n s t c=if t=true then c i1 else c i0:=λc hc t=>by
  cases t with
  | true=>
   rw[aV rfl];unfold sdS;rw[ace h1 λi hi hn=>?_]
   ·exact aV s1
   ·by_cases hs:s i=true
    ·rw[aV hs];exact hc i hi λhh=>hh.elim (λh=>by rw[h,s0] at hs;cases hs) hn
    ·exact aI hs
  | false=>
   rw[aI (by decide)];unfold sdS;rw[ace h0 λi hi hn=>?_]
   ·exact aV s0
   ·by_cases hs:s i=false
    ·rw[aV hs];exact hc i hi λhh=>hh.elim hn λh=>by rw[h,s1] at hs;cases hs
    ·exact aI hs
 refine⟨λi=>by split<;>grind,⟨λt=>if t=true then gMg n w v (λi=>if i=i0\/i=i1 then 1 else 0) i1 else gMg n w v (λi=>if i=i0\/i=i1 then 1 else 0) i0,λi _ hn=>aI λh=>hn ((hp i).2 h),λt=>?_,λi hi hpi=>?_⟩,λc hc hs _ i hi=>?_⟩
 ·rw[aVe _ λi _ hn=>aI hn]
  cases t with
  | true=>rw[aV rfl,aV (.inr rfl)]
  | false=>rw[aI (by decide),aV (.inl rfl)]
 ·rcases(hp i).1 hpi with rfl | rfl
  ·rw[s0,aI (by decide)]
  ·rw[s1,aV rfl]
 ·have j7:∀i,i<n->¬(i=i0\/i=i1)->c i=0:=λi hi hn=>hc i hi λh=>hn ((hp i).1 h);by_cases hn:i=i0\/i=i1
  ·rcases hn with rfl | rfl
   ·have:=aVe c j7 false;rw[aI (by decide),hs] at this;exact this.symm
   ·have:=aVe c j7 true;rw[aV rfl,hs] at this;exact this.symm
  ·exact j7 i hi hn
end Go.Proofs.YtlijkeolpmgioaaGreatDoor.AM
namespace Go.Proofs.YtlijkeolpmgioaaGreatDoor.AM
open Go.RowKit
def pvN (M:LM) (c t:Nat):Nat:=aA5 (el M) c t (M.length-t)
def abu (M:LM) (c t:Nat):Int:=bif decide (pvN M c t<M.length) then ((pvN M c t:Nat):Int) else -1
theorem ahI {M:LM} {c t:Nat} (ht:t<M.length) (h:el M t c=0):pvN M c t=pvN M c (t+1):=by unfold pvN;rw[show M.length-t=(M.length-(t+1))+1 by omega,aA5,aV h]
theorem ai0 {M:LM} {c t:Nat} (ht:t<M.length) (h:el M t c≠0):pvN M c t=t:=by unfold pvN;rw[show M.length-t=(M.length-(t+1))+1 by omega,aA5,aI h]
theorem aix {M:LM} {c t:Nat} (ht:M.length<=t):pvN M c t=t:=by unfold pvN;rw[show M.length-t=0 by omega,aA5]
theorem aeT {M:LM} {c t:Nat} (h:¬pvN M c t<M.length):abu M c t = -1:=by unfold abu;rw[eJ h];rfl
theorem aea {M:LM} {c t:Nat} (h:pvN M c t<M.length):abu M c t=((pvN M c t:Nat):Int):=by unfold abu;rw[kx h];rfl
def L5 (M:LM) (c:Nat):(Nat->Nat->Rat)×List Nat:=rr M.length (el M) c
def nx (M:LM) (c:Nat):Nat:=(L5 M c).2.length
def pvR (M:LM) (c:Nat):Nat:=aA5 (L5 M c).1 c (nx M c) (M.length-nx M c)
def swR (M:LM) (c:Nat):Nat->Nat->Rat:=dk (L5 M c).1 (nx M c) (pvR M c)
def kR (M:LM) (c:Nat):Rat:=1/swR M c (nx M c) c
def scT (M:LM) (c j:Nat):Nat->Nat->Rat:=λi j'=>if i=nx M c/\j'<j then swR M c i j'*kR M c else swR M c i j'
def scR (M:LM) (c:Nat):Nat->Nat->Rat:=wa (swR M c) (nx M c) (kR M c)
def elT (M:LM) (c t:Nat):Nat->Nat->Rat:=λi j=>if i≠nx M c/\i<t then scR M c i j-scR M c i c*scR M c (nx M c) j else scR M c i j
theorem aiy {M:LM} {c:Nat} (h:pvR M c<M.length):L5 M (c+1)=(abA (scR M c) (nx M c) c,(L5 M c).2++[c]):=by show abv M.length (L5 M c) c=_;unfold abv;exact aV h
theorem ahh {M:LM} {c:Nat} (h:¬pvR M c<M.length):L5 M (c+1)=L5 M c:=by show abv M.length (L5 M c) c=_;unfold abv;exact aI h
def acu (M:LM):Prop:=∃s,1<=s/\SM s M/\s*5^aps M<=BQ
theorem aeC {F G:Nat->Nat->Rat} {c:Nat}:∀{k t:Nat},(∀i,t<=i->i<t+k->F i c=G i c)->aA5 F c t k=aA5 G c t k
 | 0,_,_=>rfl
 | k+1,t,h=>by unfold aA5;rw[h t (bF t) (by omega),aeC λi h1 h2=>h i (by omega) (by omega)]
theorem ahi {n m c t:Nat} (F:Nat->Nat->Rat) (hc:c<m):pvN (aG n m F) c t=aA5 F c t (n-t):=by unfold pvN;rw[mkM_len];exact aeC λi h1 h2=>Ny (by omega) hc
theorem Holds.sm {n m s:Nat} {out:List Nat} {aqn:LM} {F:Nat->Nat->Rat} (h:Holds n m out aqn F) (hs:∀i j,Sq s (F i j)) (h1:1<=s):SM s (out.map λp=>aqn.getD p []):=by rw[h.rows];exact SM.mk (λi j _ _=>hs i j) h1
theorem BQ1:1<=BQ:=by unfold BQ;omega
theorem ahj {M:LM} (h:acu M) {c:Nat} (hc:c<aps M):∃t,1<=t/\5*t<=BQ/\∀i j,Sq t ((L5 M c).1 i j):=by obtain⟨s,h1,h2,h3⟩:=h;refine⟨s*5^c,EX h1 (pK (by omega)),?_,afy h1 (λi j=>h2.el i j) c⟩;have h4:s*5^(c+1)<=s*5^aps M:=gU s (jW (by omega) hc);rw[lN,<-po] at h4;omega
structure akW (M:LM) (c:Nat):Prop where
 sw:∀i j,Sq BQ (swR M c i j)
 ne:swR M c (nx M c) c≠0
 k:Sq BQ (kR M c)
 sc:∀j i j',Sq BQ (scT M c j i j')
 el:∀t i j,Sq BQ (elT M c t i j)
 pr:∀i j,i≠nx M c->Sq BQ (scR M c i c*scR M c (nx M c) j)
theorem ahk (M:LM) (c:Nat):nx M c<=M.length:=acG _ _ _
theorem ai1 (M:LM) (c:Nat):nx M c<=pvR M c:=(acn _ _ _ _).1
theorem akX {M:LM} (h:acu M) {c:Nat} (hc:c<aps M) (hp:pvR M c<M.length):akW M c:=by
 obtain⟨t,t1,t2,hs⟩:=ahj h hc;have hsw:∀i j,Sq t (swR M c i j):=λi j=>by
  unfold swR dk;split
  ·exact hs _ _
  ·split
   ·exact hs _ _
   ·exact hs _ _
 have ay:swR M c (nx M c) c≠0:=by unfold swR dk;rw[aV rfl];exact acx (show pvR M c<nx M c+(M.length-nx M c) by have:=ahk M c;omega)
 have hk:Sq t (kR M c):=by unfold kR;rw[GX,Hf];exact(hsw _ _).inv ay
 have hsc:∀i j,Sq (2*t) (scR M c i j):=λi j=>by
  unfold scR wa;split
  ·exact((hsw i j).mul hk).le (by omega)
  ·exact(hsw i j).le (by omega)
 have agd:∀i j,i≠nx M c->Sq t (scR M c i j):=λi j hi=>by unfold scR wa;rw[aI hi];exact hsw i j
 have Y9:∀i j,i≠nx M c->Sq (3*t) (scR M c i c*scR M c (nx M c) j):=λi j hi=>((agd i c hi).mul (hsc _ j)).le (by omega);refine⟨λi j=>(hsw i j).le (by omega),ay,hk.le (by omega),λj i j'=>?_,λt' i j=>?_,λi j hi=>(Y9 i j hi).le (by omega)⟩
 ·unfold scT;split
  ·exact((hsw i j').mul hk).le (by omega)
  ·exact(hsw i j').le (by omega)
 ·unfold elT;split
  ·rename_i hi;exact((agd i j hi.1).sub (Y9 i j hi.1)).le (by omega)
  ·exact(hsc i j).le (by omega)
theorem aiz {b:Bool} {M:LM} (h:b=true):bz b M=M:=by rw[h];rfl
theorem idh {n m i:Nat} {out:List Nat} {aqn:LM} {F:Nat->Nat->Rat} (h:Holds n m out aqn F) (hi:i<n):((0:Int)<=(i:Int)/\(i:Int)<((out.length:Nat):Int))/\i<out.length/\out.getD i 0<aqn.length:=by rw[h.len];exact⟨by omega,hi,h.lt i hi⟩
theorem idc {n m i j:Nat} {out:List Nat} {aqn:LM} {F:Nat->Nat->Rat} (h:Holds n m out aqn F) (hi:i<n) (hj:j<m):(out.getD i 0<aqn.length/\(0:Int)<=(j:Int)/\(j:Int)<(((aqn.getD (out.getD i 0) []).length:Nat):Int))/\out.getD i 0<aqn.length/\j<(aqn.getD (out.getD i 0) []).length:=by rw[h.rowLen hi];exact⟨⟨h.lt i hi,by omega,by omega⟩,h.lt i hi,hj⟩
noncomputable def LX1:List az:=Nj::xM::Cb::Wk::aa5::[]
theorem aeN:bd LX1:=⟨J0,pJ,tA,Qx,V5,trivial⟩
def a5t:CF
 | [.k (.list (.list .q)) M,.k (.int .i64) ((t:Nat):Int),.k (.int .i64) ((c:Nat):Int)]=>some (some (t<=M.length/\(∀i,i<M.length->c<(M.getD i []).length)/\SM BQ M),.k (.int .i64) (abu M c t),[])
 | _=>none
def agO:az:=⟨154,false,a5t⟩
def aiB (M:LM) (t c:Nat):bk:=⟨nU,λkey_=>match key_ with
 | 2=>some (⟨Nat,λi=>[(0,.k (.list (.list .q)) M),(2,.k (.int .i64) ((c:Nat):Int)),(6,.k (.int .i64) (0:Int)),(7,.k (.int .i64) ((i:Nat):Int))],
 λi=>[],λ_ i=>i<=M.length/\t<=i/\pvN M c t=pvN M c i,λi=>M.length-i⟩) | _=>none,nR,nU⟩
def agP (M:LM) (t c:Nat):Prop:=∃(x0:Nat),(M=M/\(c:Int)=↑c/\(0:Int)=(0:Int)/\(t:Int)=↑x0)/\(x0<=M.length/\t<=x0/\pvN M c t=pvN M c x0)/\∀(x:Nat),x <=
 M.length/\t<=x/\pvN M c t=pvN M c x->M.length<=aB->bif decide ((x:Int)<↑M.length) then (0<=(x:Int)/\(x:Int)<↑M.length) /\
 (0<=(c:Int)/\(c:Int)<↑(M.getD (x:Int).toNat []).length)/\Sq BQ ((M.getD (x:Int).toNat []).getD (c:Int).toNat 0)/\bif !decide
 (((M.getD (x:Int).toNat []).getD (c:Int).toNat 0).num.sign=0) then (x:Int)=abu M c t else ax ((x:Int)+1)/\∃(x':Nat),(M =
 M/\(c:Int)=↑c/\(0:Int)=(0:Int)/\(x:Int)+1=↑x')/\(x'<=M.length/\t<=x'/\pvN M c t=pvN M c x')/\M.length-x'<M.length
 - x else (-1:Int)=abu M c t
theorem ahJ (M:LM) (t c:Nat):aw LX1 [] (aiB M t c) Tryz.f154 (.k (.int .i64) (abu M c t)) [.k (.list (.list .q)) M,.k (.int .i64) ((t:Nat):Int),.k (.int .i64) ((c:Nat):Int)]=agP M t c:=by kernel_rfl
theorem ahL (M:LM) (t c:Nat) (hg:t<=M.length/\(∀i,i<M.length->c<(M.getD i []).length)/\SM BQ M):agP M t c:=by
 obtain⟨ht,hk,hs⟩:=hg;unfold agP;refine⟨t,⟨rfl,rfl,rfl,rfl⟩,⟨ht,bF t,rfl⟩,λi ⟨hi,h1,h2⟩ hL=>aH (λh=>?_) λh=>?_⟩
 ·have hi':i<M.length:=by omega
  refine⟨idx h,⟨by omega,Int.ofNat_lt.2 (hk i hi')⟩,hs i c,dP (λh4=>?_) λh4=>⟨nQ hi' hL,i+1,⟨rfl,rfl,rfl,rfl⟩,⟨by omega,by omega,h2.trans (ahI hi' (sign_zero.1 h4))⟩,by omega⟩⟩;have e:pvN M c t=i:=h2.trans (ai0 hi' λh0=>h4 (sign_zero.2 h0));rw[aea (by omega),e]
 ·rw[aeT (by rw[h2,aix (by omega)];omega)]
theorem afe:aqJ (cfg []) agO:=cf aeN bp Tryz.func154 λa _ _ _ hc hg hf=>by change a5t a=_ at hc;unfold a5t at hc;split at hc<;>cases hc;cases aY (ahJ _ _ _) (ahL _ _ _ hg);exact⟨rfl,by kernel_rfl,_,by assumption⟩
def a5u:List AV->Ob->Option (Option Prop×AV×Ob)
 | [.own 1000000 0 5,.k (.list .q) ys,.k .q k],.arr 55 .q xs=>some (some (xs.length=ys.length/\SL BQ xs/\SL BQ ys/\Sq BQ k/\∀j,Sq BQ (k*ys.getD j 0)),.eX .nil,.arr 55 .q (aA xs.length λj=>xs.getD j 0-k*ys.getD j 0))
 | _,_=>none
def agQ:lE:=⟨155,0,a5u⟩
def aiC (xs ys:List Rat) (k:Rat):bk:=⟨λkey_=>match key_ with | 6=>9 | _=>0,λkey_=>match key_ with
 | 3=>some (⟨Nat,λi=>[(0,.own 1000000 0 5),(5,.pt 5 0 5 0 0),(11,.k (.list .q) ys),(12,.k (.int .i64) ((ys.length:Nat):Int)),(13,.k (.int .i64) ((i:Nat):Int))],
 λi=>[(5,.box 55 (.k .q k)),(1000000,.arr 55 .q (aA xs.length λj=>if j<i then xs.getD j 0-k*ys.getD j 0 else xs.getD j 0))],λ_ i=>i<=ys.length/\k≠0,λi=>ys.length-i⟩) | _=>none,nR,nU⟩
def agR (xs ys:List Rat) (k:Rat):Prop:=Sq BQ k/\bif decide (k.num.sign=0) then xs=aA xs.length λ(j:Nat)=>xs.getD j 0-k*ys.getD j 0 else ys.length<=aB->∃(x0:Nat),
 ((ys=ys/\(↑ys.length:Int)=↑ys.length/\(0:Int)=(x0:Int))/\k=k/\xs=aA xs.length λ(j:Nat)=>if j<x0 then xs.getD j 0-k *
 ys.getD j 0 else xs.getD j 0)/\(x0<=ys.length/\k≠0)/\∀(x:Nat),
 let u1:=(↑(aA xs.length λ(j:Nat)=>if j<x then xs.getD j 0-k*ys.getD j 0 else xs.getD j 0).length:Int);x<=ys.length/\k≠(0 :
 Rat)->bif decide ((x:Int)<↑ys.length) then (0<=(x:Int)/\(x:Int)<↑ys.length)/\Sq BQ (ys.getD (x:Int).toNat 0)/\bif
 !decide ((ys.getD (x:Int).toNat 0).num.sign=0) then (0<=(x:Int)/\(x:Int)<u1)/\(x:Int).toNat<(aA xs.length λ(j:Nat)=>
 if j<x then xs.getD j 0-k*ys.getD j 0 else xs.getD j 0).length/\(Sq BQ k/\Sq BQ (ys.getD (x:Int).toNat 0))/\(Sq BQ ((aA
 xs.length λ(j:Nat)=>if j<x then xs.getD j 0-k*ys.getD j 0 else xs.getD j 0).getD (x:Int).toNat 0)/\Sq BQ (k*ys.getD (↑x
 : Int).toNat 0))/\(0<=(x:Int)/\(x:Int)<u1)/\(x:Int).toNat<(aA xs.length λ(j:Nat)=>if j<x then xs.getD j 0-k*ys.getD
 j (0:Rat) else xs.getD j 0).length/\ax ((x:Int)+1)/\∃(x':Nat),((ys=ys/\(↑ys.length:Int)=↑ys.length/\(x:Int)+1
 = (x':Int))/\k=k/\(aA xs.length λ(j:Nat)=>if j<x then xs.getD j 0-k*ys.getD j 0 else xs.getD j 0).set (x:Int).toNat ((aA
 xs.length λ(j:Nat)=>if j<x then xs.getD j 0-k*ys.getD j 0 else xs.getD j 0).getD (x:Int).toNat 0-k*ys.getD (↑x :
 Int).toNat 0)=aA xs.length λ(j:Nat)=>if j<x' then xs.getD j 0-k*ys.getD j 0 else xs.getD j 0)/\(x'<=ys.length/\k≠(0 :
 Rat))/\ys.length-x'<ys.length-x else ax ((x:Int)+1)/\∃(x':Nat),((ys=ys/\(↑ys.length:Int)=↑ys.length/\(x:Int)+1 =
 (x':Int))/\k=k/\(aA xs.length λ(j:Nat)=>if j<x then xs.getD j 0-k*ys.getD j 0 else xs.getD j 0)=aA xs.length λ(j:Nat)
 =>if j<x' then xs.getD j 0-k*ys.getD j 0 else xs.getD j 0)/\(x'<=ys.length/\k≠0)/\ys.length-x'<ys.length-x else (aA
 xs.length λ(j:Nat)=>if j<x then xs.getD j 0-k*ys.getD j 0 else xs.getD j 0)=aA xs.length λ(j:Nat)=>xs.getD j 0-k
 * ys.getD j 0
theorem ahM (xs ys:List Rat) (k:Rat) (gh_:Nat->Value):awp (acp (cfg LX1 []) (0+1) gh_) (aiC xs ys k) Tryz.f155.ntmps (Tryz.f155.body.getD .skip) (agE Tryz.f155.results.toList (.eX .nil) 0 5 (.arr 55 .q (aA xs.length λj=>xs.getD j 0-k*ys.getD j 0))) ⟨aEE 0 [.own 1000000 0 5,.k (.list .q) ys,.k .q k],[(dj,.arr 55 .q xs)]⟩=agR xs ys k:=by kernel_rfl
theorem ahN (xs ys:List Rat) (k:Rat) (hg:xs.length=ys.length/\SL BQ xs/\SL BQ ys/\Sq BQ k/\∀j,Sq BQ (k*ys.getD j 0)):agR xs ys k:=by
 obtain⟨hl,h1,h2,h3,h4⟩:=hg;unfold agR;have at_:∀i,i<xs.length->(aA xs.length λj=>if j<i then xs.getD j 0-k*ys.getD j 0 else xs.getD j 0).getD i 0=xs.getD i 0:=λi hi=>by rw[fW hi,aI (yq i)]
 refine⟨h3,aH (λh=>?_) λh hL=>⟨0,⟨⟨rfl,rfl,rfl⟩,rfl,?_⟩,⟨fi _,λe=>h (sign_zero.2 e)⟩,λi ⟨hi,hk⟩=>aH (λh5=>⟨idx h5,h2 i,dP (λh6=>?_) λh6=>?_⟩) λh5=>?_⟩⟩
 ·exact(ad3 xs 0).symm.trans (bE λj _=>by rw[sign_zero.1 h];grind)
 ·exact(ad3 xs 0).symm.trans (bE λj _=>(aI (ia _)).symm)
 ·have hi':i<ys.length:=by omega
  have hx:i<xs.length:=by omega
  have e:=at_ i hx;have e1:Sq BQ ((aA xs.length λj=>if j<i then xs.getD j 0-k*ys.getD j 0 else xs.getD j 0).getD i 0):=by rw[e];exact h1 i
  have r1:(0:Int)<=(i:Int)/\(i:Int)<(((aA xs.length λj=>if j<i then xs.getD j 0-k*ys.getD j 0 else xs.getD j 0).length:Nat):Int):=by rw[mX];omega
  have r2:i<(aA xs.length λj=>if j<i then xs.getD j 0-k*ys.getD j 0 else xs.getD j 0).length:=by rw[mX];exact hx
  refine⟨r1,r2,⟨h3,h2 i⟩,⟨e1,h4 i⟩,r1,r2,nQ hi' hL,i+1,⟨⟨rfl,rfl,rfl⟩,rfl,?_⟩,⟨by omega,hk⟩,by omega⟩;rw[show((i:Nat):Int).toNat=i from rfl,e,mY hx];refine bE λj _=>?_;rcases vv j i with h7 | h7 | h7
  ·rw[aI (by omega),aV h7,aV (by omega)]
  ·rw[aV h7,aV (by omega),h7]
  ·rw[aI (by omega),aI (by omega),aI (by omega)]
 ·have hi':i<ys.length:=by omega
  refine⟨nQ hi' hL,i+1,⟨⟨rfl,rfl,rfl⟩,rfl,bE λj _=>?_⟩,⟨by omega,hk⟩,by omega⟩;have h6:ys.getD i 0=0:=sign_zero.1 h6;rcases vv j i with h7 | h7 | h7
  ·rw[aV h7,aV (by omega)]
  ·rw[aI (by omega),aV (by omega),h7,h6];grind
  ·rw[aI (by omega),aI (by omega)]
 ·exact bE λj hj=>aV (by omega)
theorem afh:AQ (cfg []) agQ:=alr aeN bp Tryz.func155 (by kernel_rfl) (by kernel_rfl) λargs ob g r ob' hc hg hf=>by
 replace hc:a5u args ob=some (g,r,ob'):=hc;unfold a5u at hc;split at hc
 ·cases hc;have hv:=ahN _ _ _ hg;exact⟨by kernel_rfl,5,_,rfl,λgh=>by cases aY (ahM _ _ _ gh) hv;assumption⟩
 ·cases hc
noncomputable def LX2:List az:=ya::N0::agO::LX1
theorem ai2:bd LX2:=⟨uz,L6,afe,aeN⟩
noncomputable def MX1:List lE:=agQ::[]
theorem ai3:ku MX1:=⟨afh,trivial⟩
def a2I:CF
 | [.k (.list (.list .q)) M]=>some (some (as3 M=true->acu M),T2 (.agg (.cons (.k (.list (.list .q)) (bz (as3 M) (aaf M))) (.cons (.k (.list (.int .i64)) (bif as3 M then abp M else [])) .nil))) (.k (.int .i64) (bu (as3 M))),[])
 | _=>none
def aeb:az:=⟨136,false,a2I⟩
def agi (M:LM):bk:=⟨λkey_=>match key_ with | 11=>12 | 12=>13 | 16=>8 | 22=>15 | _=>0,λkey_=>match key_ with
 | 6=>some (⟨Nat×List Nat×LM,λp=>[(0,.k (.list (.list .q)) M),(2,.pt 2 0 2 0 0),(4,.own 19 0 1),(5,.own 109 0 1),(23,.k (.int .i64) ((aps M:Nat):Int)),(24,.k (.int .i64) ((p.1:Nat):Int))],
 λp=>[(2,.box 183 (.agg (.cons .dv (.cons .dv .nil)))),(19,.bc 43 55 .q p.2.1 p.2.2),(109,.arr 3 (.int .i64) (K5 (L5 M p.1).2))],
 λ_ p=>as3 M=true/\p.1<=aps M/\Holds M.length (aps M) p.2.1 p.2.2 (L5 M p.1).1,λp=>aps M-p.1⟩)
 | 1000011=>some (⟨Nat×List Nat×LM,λp=>[(0,.k (.list (.list .q)) M),(2,.pt 2 0 2 0 0),(4,.own 19 0 1),(5,.own 109 0 1),(6,.k (.int .i64) ((p.1:Nat):Int)),(7,.k (.int .i64) ((nx M p.1:Nat):Int)),(23,.k (.int .i64) ((aps M:Nat):Int)),(24,.k (.int .i64) ((p.1:Nat):Int))],
 λp=>[(2,.box 183 (.agg (.cons .dv (.cons .dv .nil)))),(19,.bc 43 55 .q p.2.1 p.2.2),(109,.arr 3 (.int .i64) (K5 (L5 M p.1).2))],
 λq p=>p.1=q.1/\as3 M=true/\p.1<aps M/\pvR M p.1<M.length/\Holds M.length (aps M) p.2.1 p.2.2 (swR M p.1),λp=>0⟩)
 | 14=>some (⟨Nat×Nat×List Nat×LM,λp=>[(0,.k (.list (.list .q)) M),(2,.pt 2 0 2 0 0),(4,.own 19 0 1),(5,.own 109 0 1),(6,.k (.int .i64) ((p.2.1:Nat):Int)),(7,.k (.int .i64) ((nx M p.2.1:Nat):Int)),(9,.pt 9 0 5 0 0),(23,.k (.int .i64) ((aps M:Nat):Int)),(24,.k (.int .i64) ((p.2.1:Nat):Int)),(64,.own 19 (p.2.2.1.getD (nx M p.2.1) 0+1) 5),(65,.k (.int .i64) ((aps M:Nat):Int)),(66,.k (.int .i64) ((p.1:Nat):Int))],
 λp=>[(2,.box 183 (.agg (.cons .dv (.cons .dv .nil)))),(9,.box 55 (.k .q (kR M p.2.1))),(19,.bc 43 55 .q p.2.2.1 p.2.2.2),(109,.arr 3 (.int .i64) (K5 (L5 M p.2.1).2))],
 λq p=>p.2.1=q.2.1/\p.2.2.1=q.2.2.1/\as3 M=true/\p.2.1<aps M/\pvR M p.2.1<M.length/\p.1<=aps M/\Holds M.length (aps M) p.2.2.1 p.2.2.2 (scT M p.2.1 p.1),λp=>aps M-p.1⟩)
 | 19=>some (⟨Nat×Nat×List Nat×LM,λp=>[(0,.k (.list (.list .q)) M),(2,.pt 2 0 2 0 0),(4,.own 19 0 1),(5,.own 109 0 1),(6,.k (.int .i64) ((p.2.1:Nat):Int)),(7,.k (.int .i64) ((nx M p.2.1:Nat):Int)),(23,.k (.int .i64) ((aps M:Nat):Int)),(24,.k (.int .i64) ((p.2.1:Nat):Int)),(82,.k (.int .i64) ((M.length:Nat):Int)),(83,.k (.int .i64) ((p.1:Nat):Int))],
 λp=>[(2,.box 183 (.agg (.cons .dv (.cons .dv .nil)))),(19,.bc 43 55 .q p.2.2.1 p.2.2.2),(109,.arr 3 (.int .i64) (K5 (L5 M p.2.1).2))],
 λq p=>p.2.1=q.2.1/\as3 M=true/\p.2.1<aps M/\pvR M p.2.1<M.length/\p.1<=M.length/\Holds M.length (aps M) p.2.2.1 p.2.2.2 (elT M p.2.1 p.1),λp=>M.length-p.1⟩) | _=>none,nR,nU⟩
def aec (M:LM):Prop:=
 let t1:=(↑(aps M):Int);
 bif !as3 M then (bz (as3 M) (aaf M)=[]/\(bif as3 M then abp M else [])=[])/\(5:Int)=bu (as3 M) else ((0:Int)<=(0:Int)/\(0:Int) <
 (↑M.length:Int))/\((M.getD (Int.toNat (0:Int)) []).length<=aB->∃(x0:Nat×List Nat×LM),((M=M/\(↑(M.getD (Int.toNat (0:Int)) []).length :
 Int)=t1/\(0:Int)=(↑x0.1:Int))/\(bh M.length M.length=x0.2.1/\[]::M=x0.2.2)/\K5 (L5 M x0.1).snd=[])/\(as3 M=true/\x0.1<=aps M/\Holds
 M.length (aps M) x0.2.1 x0.2.2 (L5 M x0.1).fst)/\∀(x:Nat×List Nat×LM),let u3:=K5 (L5 M x.1).snd;
 let u1:=List.map (λ(p:Nat)=>x.2.2.getD p []) x.2.1;let u14:=abu u1 x.1 u3.length;
 let u9:=x.2.1.set (↑u3.length:Int).toNat ((x.2.1.getD u14.toNat 0));as3 M=true/\x.1<=aps M/\Holds M.length (aps M) x.2.1 x.2.2 (L5 M x.1).fst ->
 bif decide ((↑x.1:Int)<t1) then u3.length<=aB->(u3.length<=u1.length/\(∀(i:Nat),i<u1.length->x.1<(u1.getD i []).length)/\SM BQ u1)/\bif decide (abu
 u1 x.1 u3.length<0) then ax ((↑x.1:Int)+1)/\∃(x':Nat×List Nat×LM),((M=M/\t1=t1/\(↑x.1:Int)+1=(↑x'.1 :
 Int))/\(x.2.1=x'.2.1/\x.2.2=x'.2.2)/\K5 (L5 M x.1).snd=K5 (L5 M x'.1).snd)/\(as3 M=true/\x'.1<=aps M/\Holds M.length (aps M) x'.2.1 x'.2.2 (L5
 M x'.1).fst)/\aps M-x'.1<aps M-x.1 else ((0:Int)<=abu u1 x.1 u3.length/\abu u1 x.1 u3.length<(↑x.2.1.length:Int))/\u14.toNat<x.2.1.length/\((0 :
 Int)<=(↑u3.length:Int)/\(↑u3.length:Int)<↑x.2.1.length)/\(↑u3.length:Int).toNat<x.2.1.length/\(0<=(↑u3.length:Int)/\(↑u3.length:Int) <
 (↑x.2.1.length:Int))/\((↑u3.length:Int).toNat<x.2.1.length/\(x.2.1.getD u14.toNat 0)<x.2.2.length)/\((0:Int)<=abu u1 x.1 u3.length/\abu u1 x.1
 u3.length<(↑u9.length:Int))/\(u14.toNat<u9.length/\(x.2.1.getD (↑u3.length:Int).toNat 0)<x.2.2.length)/\∃(x0:Nat×List Nat×LM),
 ((M=M/\(↑x.1:Int)=↑x0.1/\(↑u3.length:Int)=(↑(nx M x0.1):Int)/\t1=t1/\(↑x.1:Int)=↑x0.1)/\(u9.set u14.toNat ((x.2.1.getD (↑u3.length
 : Int).toNat 0))=x0.2.1/\x.2.2=x0.2.2)/\K5 (L5 M x.1).snd=K5 (L5 M x0.1).snd)/\(x0.1=x0.1/\as3 M=true/\x0.1<aps M/\pvR M x0.1 <
 M.length/\Holds M.length (aps M) x0.2.1 x0.2.2 (swR M x0.1))/\∀(y1:Nat×List Nat×LM),let u11:=(↑(nx M y1.1):Int);
 let u4:=y1.2.1.getD u11.toNat 0;let u15:=y1.2.2.getD u4 [];y1.1=x0.1/\as3 M=true/\y1.1<aps M/\pvR M y1.1<M.length/\Holds M.length (aps M)
 y1.2.1 y1.2.2 (swR M y1.1)->ax (1:Int)/\((0:Int)<=u11/\u11<(↑y1.2.1.length:Int))/\u11.toNat<y1.2.1.length/\(u4<y1.2.2.length/\0<=(↑y1.1 :
 Int)/\(↑y1.1:Int)<↑u15.length)/\(u4<y1.2.2.length/\(↑y1.1:Int).toNat<u15.length)/\(Sq BQ (↑(1:Int):Rat)/\Sq BQ (u15.getD (↑y1.1:Int).toNat (0
 : Rat)))/\((0:Int)<=u11/\u11<(↑y1.2.1.length:Int))/\u11.toNat<y1.2.1.length/\(u15.length<=aB->u4<y1.2.2.length/\∃(x0:Nat×Nat×List Nat×List
 (List Rat)),((M=M/\(↑y1.1:Int)=↑x0.2.1/\u11=(↑(nx M x0.2.1):Int)/\t1=t1/\(↑y1.1:Int)=↑x0.2.1/\u4=(x0.2.2.1.getD (nx M x0.2.1) (0
 : Nat))/\(↑u15.length:Int)=t1/\(0:Int)=(↑x0.1:Int))/\(↑(1:Int):Rat)/u15.getD (↑y1.1:Int).toNat 0=kR M x0.2.1/\(y1.2.1=x0.2.2.1/\y1.2.2
 = x0.2.2.2)/\K5 (L5 M y1.1).snd=K5 (L5 M x0.2.1).snd)/\(x0.2.1=x0.2.1/\x0.2.2.1=x0.2.2.1/\as3 M=true/\x0.2.1<aps M/\pvR M x0.2.1<M.length /\
 x0.1<=aps M/\Holds M.length (aps M) x0.2.2.1 x0.2.2.2 (scT M x0.2.1 x0.1))/\∀(y2:Nat×Nat×List Nat×LM),let u13:=(↑(nx M y2.2.1):Int);
 let u6:=y2.2.2.1.getD (nx M y2.2.1) 0;let u5:=y2.2.2.1.getD u13.toNat 0;y2.2.1=x0.2.1/\y2.2.2.1=x0.2.2.1/\as3 M=true/\y2.2.1<aps M
 /\ pvR M y2.2.1<M.length/\y2.1<=aps M/\Holds M.length (aps M) y2.2.2.1 y2.2.2.2 (scT M y2.2.1 y2.1)->bif decide ((↑y2.1:Int)<t1) then (u6<y2.2.2.2.length /\
 0<=(↑y2.1:Int)/\(↑y2.1:Int)<↑(y2.2.2.2.getD u6 []).length)/\(u6<y2.2.2.2.length/\(↑y2.1:Int).toNat<(y2.2.2.2.getD u6 []).length)/\((0 :
 Int)<=u13/\u13<(↑y2.2.2.1.length:Int))/\u13.toNat<y2.2.2.1.length/\(Sq BQ ((y2.2.2.2.getD u6 []).getD (↑y2.1:Int).toNat 0)/\Sq BQ (kR M y2.2.1)) /\
 (u5<y2.2.2.2.length/\0<=(↑y2.1:Int)/\(↑y2.1:Int)<↑(y2.2.2.2.getD u5 []).length)/\(u5<y2.2.2.2.length/\(↑y2.1:Int).toNat<(y2.2.2.2.getD
 u5 []).length)/\ax ((↑y2.1:Int)+1)/\∃(x':Nat×Nat×List Nat×LM),((M=M/\(↑y2.2.1:Int)=↑x'.2.1/\u13=(↑(nx M x'.2.1)
 : Int)/\t1=t1/\(↑y2.2.1:Int)=↑x'.2.1/\u6=(x'.2.2.1.getD (nx M x'.2.1) 0)/\t1=t1/\(↑y2.1:Int)+1=↑x'.1)/\kR M y2.2.1
 = kR M x'.2.1/\(y2.2.2.1=x'.2.2.1/\y2.2.2.2.set u5 ((y2.2.2.2.getD u5 []).set (↑y2.1:Int).toNat ((y2.2.2.2.getD u6 []).getD (↑y2.1:Int).toNat 0*kR M
 y2.2.1))=x'.2.2.2)/\K5 (L5 M y2.2.1).snd=K5 (L5 M x'.2.1).snd)/\(x'.2.1=x0.2.1/\x'.2.2.1=x0.2.2.1/\as3 M=true/\x'.2.1<aps M/\pvR M x'.2.1 <
 M.length/\x'.1<=aps M/\Holds M.length (aps M) x'.2.2.1 x'.2.2.2 (scT M x'.2.1 x'.1))/\aps M-x'.1<aps M-y2.1 else y2.2.2.1.length<=aB->∃(x0:Nat ×
 Nat×List Nat×LM),((M=M/\(↑y2.2.1:Int)=↑x0.2.1/\u13=(↑(nx M x0.2.1):Int)/\t1=t1/\(↑y2.2.1:Int)=↑x0.2.1 /\
 (↑y2.2.2.1.length:Int)=↑M.length/\(0:Int)=(↑x0.1:Int))/\(y2.2.2.1=x0.2.2.1/\y2.2.2.2=x0.2.2.2)/\K5 (L5 M y2.2.1).snd=K5 (L5 M x0.2.1).snd)
 /\ (x0.2.1=x0.2.1/\as3 M=true/\x0.2.1<aps M/\pvR M x0.2.1<M.length/\x0.1<=M.length/\Holds M.length (aps M) x0.2.2.1 x0.2.2.2 (elT M x0.2.1 x0.1))/\∀
 (y3:Nat×Nat×List Nat×LM),let u8:=(↑y3.2.1:Int);let u7:=(↑(nx M y3.2.1):Int);let u12:=y3.2.2.1.getD u7.toNat 0;
 let u2:=y3.2.2.1.getD (↑y3.1:Int).toNat 0;let u10:=y3.2.2.2.getD u2 [];y3.2.1=x0.2.1/\as3 M=true/\y3.2.1<aps M/\pvR M y3.2.1<M.length /\
 y3.1<=M.length/\Holds M.length (aps M) y3.2.2.1 y3.2.2.2 (elT M y3.2.1 y3.1)->bif decide ((↑y3.1:Int)<↑M.length) then bif !decide ((↑y3.1:Int)=u7)
 then (0<=(↑y3.1:Int)/\(↑y3.1:Int)<↑y3.2.2.1.length)/\(↑y3.1:Int).toNat<y3.2.2.1.length/\((0:Int)<=u7/\u7<(↑y3.2.2.1.length:Int)) /\
 u7.toNat<y3.2.2.1.length/\(0<=(↑y3.1:Int)/\(↑y3.1:Int)<↑y3.2.2.1.length)/\(↑y3.1:Int).toNat<y3.2.2.1.length/\(u2<y3.2.2.2.length/\(0 :
 Int)<=u8/\u8<(↑u10.length:Int))/\(u2<y3.2.2.2.length/\u8.toNat<u10.length)/\(u2<y3.2.2.2.length/\u12≠u2/\u10.length=(y3.2.2.2.getD u12 []).length /\
 SL BQ u10/\SL BQ (y3.2.2.2.getD u12 [])/\Sq BQ (u10.getD u8.toNat 0)/\∀(j:Nat),Sq BQ (u10.getD u8.toNat 0*(y3.2.2.2.getD u12 []).getD j (0 :
 Rat)))/\ax ((↑y3.1:Int)+1)/\∃(x':Nat×Nat×List Nat×LM),((M=M/\u8=(↑x'.2.1:Int)/\u7=(↑(nx M x'.2.1):Int)/\t1=t1/\u8
 = (↑x'.2.1:Int)/\(↑M.length:Int)=↑M.length/\(↑y3.1:Int)+1=↑x'.1)/\(y3.2.2.1=x'.2.2.1/\y3.2.2.2.set u2 (aA u10.length λ(j :
 Nat)=>u10.getD j 0-u10.getD u8.toNat 0*(y3.2.2.2.getD u12 []).getD j 0)=x'.2.2.2)/\K5 (L5 M y3.2.1).snd=K5 (L5 M x'.2.1).snd) /\
 (x'.2.1=x0.2.1/\as3 M=true/\x'.2.1<aps M/\pvR M x'.2.1<M.length/\x'.1<=M.length/\Holds M.length (aps M) x'.2.2.1 x'.2.2.2 (elT M x'.2.1 x'.1)) /\
 M.length-x'.1<M.length-y3.1 else ax ((↑y3.1:Int)+1)/\∃(x':Nat×Nat×List Nat×LM),((M=M/\u8=(↑x'.2.1:Int)/\u7=(↑(nx M
 x'.2.1):Int)/\t1=t1/\u8=(↑x'.2.1:Int)/\(↑M.length:Int)=↑M.length/\(↑y3.1:Int)+1=↑x'.1)/\(y3.2.2.1=x'.2.2.1/\y3.2.2.2 =
 x'.2.2.2)/\K5 (L5 M y3.2.1).snd=K5 (L5 M x'.2.1).snd)/\(x'.2.1=x0.2.1/\as3 M=true/\x'.2.1<aps M/\pvR M x'.2.1<M.length/\x'.1<=M.length/\Holds
 M.length (aps M) x'.2.2.1 x'.2.2.2 (elT M x'.2.1 x'.1))/\M.length-x'.1<M.length-y3.1 else (K5 (L5 M y3.2.1).snd).length+[u8].length<=aB/\ax (u8+(1 :
 Int))/\∃(x':Nat×List Nat×LM),((M=M/\t1=t1/\u8+(1:Int)=(↑x'.1:Int))/\(y3.2.2.1=x'.2.1/\y3.2.2.2=x'.2.2)/\(K5 (L5 M
 y3.2.1).snd).append [u8]=K5 (L5 M x'.1).snd)/\(as3 M=true/\x'.1<=aps M/\Holds M.length (aps M) x'.2.1 x'.2.2 (L5 M x'.1).fst)/\aps M-x'.1<aps M
 - x.1) else u3.length<=aB->u3.length<=aB->rz u1.length none (some (↑u3.length:Int)) (some (↑u3.length:Int))/\(aM9 u1 none (some (↑u3.length:Int))=bz
 (as3 M) (aaf M)/\K5 (L5 M x.1).snd=bif as3 M then abp M else [])/\(0:Int)=bu (as3 M))
theorem afK (M:LM):aw LX2 MX1 (agi M) Tryz.f136 (T2 (.agg (.cons (.k (.list (.list .q)) (bz (as3 M) (aaf M))) (.cons (.k (.list (.int .i64)) (bif as3 M then abp M else [])) .nil))) (.k (.int .i64) (bu (as3 M)))) [.k (.list (.list .q)) M]=aec M:=by kernel_rfl
theorem afL (M:LM) (hg:as3 M=true->acu M):aec M:=by
 unfold aec;dsimp only;refine a6T (λh=>by rw[h];exact⟨⟨rfl,rfl⟩,rfl⟩) λhR=>?_
 obtain⟨m1,m2,m3⟩:=ba hR;have hg:=hg hR;refine⟨⟨by omega,by omega⟩,λhL0=>⟨(0,bh M.length M.length,[]::M),⟨⟨rfl,rfl,rfl⟩,⟨rfl,rfl⟩,rfl⟩,⟨hR,fi _,Holds.init m3⟩,λ⟨c,out,aqn⟩ ⟨_,hc,hH⟩=>?_⟩⟩;dsimp only at hc hH ⊢;have hL0:aps M<=aB:=hL0;have ht:=ahk M c;have eL:(K5 (L5 M c).2).length=nx M c:=adq _;rw[eL];refine aH (λaU pd=>?_) λiU hL1 n5=>?_
 ·have j7:c<aps M:=by omega
  have hpg:=ai1 M c;have ePv:∀t,pvN (out.map λp=>aqn.getD p []) c t=aA5 (L5 M c).1 c t (M.length-t):=λt=>by rw[hH.rows];exact ahi _ j7
  have eRl:(out.map λp=>aqn.getD p []).length=M.length:=by rw[hH.rows,mkM_len]
  obtain⟨t0,t1,t2,hsq⟩:=ahj hg j7;refine⟨⟨by rw[eRl];exact ht,λi hi=>?_,(hH.sm hsq t1).le (by omega)⟩,?_⟩
  ·rw[eRl] at hi;rw[hH.rows,na hi,mX];exact j7
  by_cases hp:pvR M c<M.length
  ·have eP:abu (out.map λp=>aqn.getD p []) c (nx M c)=((pvR M c:Nat):Int):=by
    rw[aea (by rw[ePv,eRl];exact hp),ePv];rfl
   rw[eP];have htl:nx M c<M.length:=by omega
   obtain⟨p1,p2,p3⟩:=idh hH hp;obtain⟨q1,q2,q3⟩:=idh hH htl;refine aH (λh=>by omega) λ_=>⟨p1,p2,q1,q2,q1,⟨q2,p3⟩,⟨by omega,by rw[tQ];exact p1.2⟩,⟨by rw[tQ];exact p2,q3⟩,(c,(out.set (nx M c) (out.getD (pvR M c) 0)).set (pvR M c) (out.getD (nx M c) 0),aqn),⟨⟨rfl,rfl,rfl,rfl,rfl⟩,⟨rfl,rfl⟩,rfl⟩,⟨rfl,hR,j7,hp,hH.swap htl hp⟩,λ⟨c2,o2,pl2⟩ ⟨cG,_,_,_,hS⟩=>?_⟩
   dsimp only at cG hS ⊢;subst cG;have cs:=akX hg j7 hp;obtain⟨a1,a2,a3⟩:=idh hS htl;obtain⟨b1,b2⟩:=idc hS htl j7;have eC:=hS.cell 0 htl j7;have amz:=hS.rowLen htl;refine⟨by unfold ax;omega,a1,a2,b1,b2,⟨?_,?_⟩,a1,a2,λ_=>⟨a3,(0,c2,o2,pl2),⟨⟨rfl,rfl,rfl,rfl,rfl,rfl,by rw[show((nx M c2:Nat):Int).toNat=nx M c2 from rfl,amz],rfl⟩,?_,⟨rfl,rfl⟩,rfl⟩,⟨rfl,rfl,hR,j7,hp,fi _,hS.congr λi j _ _=>?_⟩,λ⟨j,c3,o3,pl3⟩ ⟨cG,hoo,_,_,_,hj,hT⟩=>?_⟩⟩
   ·exact Sq.int (n:=1) (Sm.one.le BQ1) BQ1
   ·rw[show((nx M c2:Nat):Int).toNat=nx M c2 from rfl,show((c2:Nat):Int).toNat=c2 from rfl,eC];exact cs.sw _ _
   ·rw[show((nx M c2:Nat):Int).toNat=nx M c2 from rfl,show((c2:Nat):Int).toNat=c2 from rfl,eC];rfl
   ·show swR M c2 i j=scT M c2 0 i j;unfold scT;rw[aI λe=>ia _ e.2]
   dsimp only at cG hoo hj hT ⊢;subst cG;subst hoo;refine aH (λh=>?_) λh YE=>?_
   ·have uC:j<aps M:=by omega
    obtain⟨d1,d2⟩:=idc hT htl uC;obtain⟨f1,f2,f3⟩:=idh hT htl;have e1:=hT.cell 0 htl uC;refine⟨d1,d2,f1,f2,⟨?_,cs.k⟩,d1,d2,nQ uC hL0,(j+1,c3,o3,_),⟨⟨rfl,rfl,rfl,rfl,rfl,rfl,rfl,rfl⟩,rfl,⟨rfl,rfl⟩,rfl⟩,⟨rfl,rfl,hR,j7,hp,uC,(hT.amw htl uC _).congr λi j' _ _=>?_⟩,by show _-(j+1)<_-j;omega⟩
    ·rw[show((j:Nat):Int).toNat=j from rfl,e1];exact cs.sc _ _ _
    ·rw[show((j:Nat):Int).toNat=j from rfl,e1];unfold scT;by_cases e2:i=nx M c3
     ·rcases vv j' j with h5 | h5 | h5
      ·rw[aI (by omega),aV ⟨e2,h5⟩,aV ⟨e2,by omega⟩]
      ·rw[aV ⟨e2,h5⟩,aI (by omega),aV ⟨e2,by omega⟩,e2,h5]
      ·rw[aI (by omega),aI (by omega),aI (by omega)]
     ·rw[aI λe=>e2 e.1,aI λe=>e2 e.1,aI λe=>e2 e.1]
   ·have hTl:=hT.len;refine⟨(0,c3,o3,pl3),⟨⟨rfl,rfl,rfl,rfl,rfl,by rw[hTl],rfl⟩,⟨rfl,rfl⟩,rfl⟩,⟨rfl,hR,j7,hp,fi _,hT.congr λi j' _ sH=>?_⟩,λ⟨i,c4,o4,pl4⟩ ⟨cG,_,_,_,hi,hE⟩=>?_⟩
    ·show scT M c3 j i j'=elT M c3 0 i j';have h0:¬(i≠nx M c3/\i<0):=λe=>ia _ e.2;unfold scT elT scR wa;rw[aI h0];by_cases e2:i=nx M c3
     ·rw[aV ⟨e2,by omega⟩,aV e2]
     ·rw[aI λe=>e2 e.1,aI e2]
    dsimp only at cG hi hE ⊢;subst cG;have hML:M.length<=aB:=by rw[<-hTl];exact YE
    refine aH (λh6=>?_) λh6=>?_
    ·have hi':i<M.length:=by omega
     refine dP (λh7=>?_) λh7=>?_
     ·have ay:i≠nx M c4:=λe=>h7 (by rw[e]);obtain⟨g1,g2,g3⟩:=idh hE hi';obtain⟨k1,k2,k3⟩:=idh hE htl;obtain⟨l1,l2⟩:=idc hE hi' j7;have e1:=hE.cell 0 hi' j7;have r1:=hE.row i hi';have r2:=hE.row (nx M c4) htl;have v1:∀j',elT M c4 i i j'=scR M c4 i j':=λj'=>aI λe=>yq _ e.2;have v2:∀j',elT M c4 i (nx M c4) j'=scR M c4 (nx M c4) j':=λj'=>aI λe=>e.1 rfl;refine⟨g1,g2,k1,k2,g1,g2,l1,l2,⟨g3,λe=>ay (hE.inj _ _ htl hi' e).symm,?_,?_,?_,?_,λj'=>?_⟩,nQ hi' hML,(i+1,c4,o4,_),⟨⟨rfl,rfl,rfl,rfl,rfl,rfl,rfl⟩,⟨rfl,rfl⟩,rfl⟩,⟨rfl,hR,j7,hp,hi',(hE.set hi' (f:=λj'=>scR M c4 i j'-scR M c4 i c4*scR M c4 (nx M c4) j') ?_).congr λi' j' _ _=>?_⟩,by show _-(i+1)<_-i;omega⟩;all_goals simp only[show((i:Nat):Int).toNat=i from rfl,show((nx M c4:Nat):Int).toNat=nx M c4 from rfl,show((c4:Nat):Int).toNat=c4 from rfl]
      ·rw[r1,r2,mX,mX]
      ·rw[r1];exact SL.mk (λ_ _=>cs.el _ _ _) BQ1
      ·rw[r2];exact SL.mk (λ_ _=>cs.el _ _ _) BQ1
      ·rw[e1];exact cs.el _ _ _
      ·rw[e1,r2];rcases cM j' (aps M) with sH | sH
       ·rw[fW sH,v1,v2];exact cs.pr _ _ ay
       ·rw[ss sH,Lg];exact Sq.zero _ BQ1
      ·rw[e1,r1,r2,mX];exact bE λj' sH=>by rw[fW sH,fW sH,v1,v1,v2]
      ·by_cases e2:i'=i
       ·subst e2;rw[aV rfl];exact(aV ⟨ay,tS _⟩).symm
       ·rw[aI e2];unfold elT;by_cases e3:i'≠nx M c4/\i'<i
        ·rw[aV e3,aV ⟨e3.1,by omega⟩]
        ·rw[aI e3,aI λe=>e3 ⟨e.1,by omega⟩]
     ·have e2:i=nx M c4:=by omega
      refine⟨nQ hi' hML,(i+1,c4,o4,pl4),⟨⟨rfl,rfl,rfl,rfl,rfl,rfl,rfl⟩,⟨rfl,rfl⟩,rfl⟩,⟨rfl,hR,j7,hp,hi',hE.congr λi' j' _ _=>?_⟩,by show _-(i+1)<_-i;omega⟩;show elT M c4 i i' j'=elT M c4 (i+1) i' j';unfold elT;by_cases e3:i'≠nx M c4/\i'<i
      ·rw[aV e3,aV ⟨e3.1,by omega⟩]
      ·rw[aI e3,aI λe=>e3 ⟨e.1,by have:=e.1;omega⟩]
    ·have eS:=aiy hp;have fT:(K5 (L5 M c4).2).length+[((c4:Nat):Int)].length<=aB:=by rw[eL];simp only[yY,Lz];omega
     refine⟨fT,nQ j7 hL0,(c4+1,o4,pl4),⟨⟨rfl,rfl,rfl⟩,⟨rfl,rfl⟩,?_⟩,⟨hR,j7,?_⟩,by show _-(c4+1)<_-c4;omega⟩
     ·show _=K5 (L5 M (c4+1)).2;rw[eS];exact(ahH _ _).symm
     ·show Holds _ _ _ _ (L5 M (c4+1)).1;rw[eS];exact hE.congr λi' j' OK _=>by
       show elT M c4 i i' j'=abA (scR M c4) (nx M c4) c4 i' j';unfold elT abA;by_cases e3:i'=nx M c4
       ·rw[aI λe=>e.1 e3,aV e3]
       ·rw[aV ⟨e3,by omega⟩,aI e3]
  ·have eP:abu (out.map λp=>aqn.getD p []) c (nx M c) = -1:=aeT (by rw[ePv,eRl];exact hp);rw[eP];refine aH (λ_=>⟨nQ j7 hL0,(c+1,out,aqn),⟨⟨rfl,rfl,rfl⟩,⟨rfl,rfl⟩,?_⟩,⟨hR,j7,?_⟩,by show _-(c+1)<_-c;omega⟩) λh=>by omega
   ·show _=K5 (L5 M (c+1)).2;rw[ahh hp]
   ·show Holds _ _ _ _ (L5 M (c+1)).1;rw[ahh hp];exact hH
 ·have e:c=aps M:=by omega
  subst e;rw[hH.rows];have uN:((nx M (aps M):Nat):Int)<=(((aG M.length (aps M) (L5 M (aps M)).1).length:Nat):Int):=by rw[mkM_len];omega
  refine⟨⟨by omega,uN,rfl⟩,⟨?_,?_⟩,?_⟩
  ·rw[aiz hR];show(aG M.length (aps M) (L5 M (aps M)).1).take (nx M (aps M))=_;exact ahw ht
  ·rw[hR];rfl
  ·rw[hR];rfl
theorem ads:aqJ (cfg []) aeb:=cf ai2 ai3 Tryz.func136 λa _ _ _ hc hg hf=>by change a2I a=_ at hc;unfold a2I at hc;split at hc<;>cases hc;cases aY (afK _) (afL _ hg);exact⟨rfl,by kernel_rfl,_,by assumption⟩
end Go.Proofs.YtlijkeolpmgioaaGreatDoor.AM
