/- The base of the proof: contracts of functions, the engine that shows them, and mathematics. -/
import Derived.Test.YtnciifikfkpanaaGreatDoorBd8
set_option maxRecDepth 100000
set_option linter.unusedVariables false
set_option linter.unusedSimpArgs false
set_option maxHeartbeats 1000000
namespace Go.Proofs.YtnciifikfkpanaaGreatDoor.AM
open Go.RowKit
theorem aq.lu {ok:Nat->Prop} {w:World} {β:Bm} {x:Nat} {v:Value} (h:aq ok w β (.k .nat x) v):v=nV x:=by obtain⟨c,hc,hv⟩:=h;have hc:c=iD x:=hc;subst hc;exact hv
theorem aq.Jt {ok:Nat->Prop} {w:World} {β:Bm} (x:Nat):aq ok w β (.k .nat x) (nV x):=⟨iD x,rfl,rfl⟩
theorem aq.xE {ok:Nat->Prop} {w:World} {β:Bm} {x:Nat} {v:Value} (h:aq ok w β (.k .rn x) v):bJ x v w:=by obtain⟨c,⟨u,rfl,h1⟩,hv⟩:=h;obtain⟨A,k,rfl⟩:=h1.form;rw[hv];exact h1
theorem aq.VB {ok:Nat->Prop} {w:World} {β:Bm} {x:Nat} {v:Value} (h:bJ x v w):aq ok w β (.k .rn x) v:=⟨[v],⟨v,rfl,h⟩,rfl⟩
theorem FD {f:FuncId} {a:Array Value} {w:World} {x:Nat} (h:Calls Tryz.prog f a w (cg (nV x) w)):Calls Tryz.prog f a w (Gv (.k .nat x) w):=Calls.mono h λe w' ⟨h1,h2⟩=>⟨_,h1,h2,.Jt x⟩
theorem VC {f:FuncId} {a:Array Value} {w:World} {x:Int} (h:Calls Tryz.prog f a w (cg (.int .i64 x) w)):Calls Tryz.prog f a w (Gv (.k (.int .i64) x) w):=Calls.mono h λe w' ⟨h1,h2⟩=>⟨_,h1,h2,.mkInt _ x⟩
theorem xF {f:FuncId} {a:Array Value} {w:World} {x:Nat} (h:Calls Tryz.prog f a w (cA (bJ x) w)):Calls Tryz.prog f a w (Gv (.k .rn x) w):=Calls.mono h λe w' ⟨v,h1,h2,h3⟩=>⟨v,h1,h3,.VB h2⟩
theorem ph {ok:Nat->Prop} {w:World} {β:Bm} {a b:AV} {u v:Value} (h1:aq ok w β a u) (h2:aq ok w β b v):aq ok w β (.eX (.cons a (.cons b .nil))) (.tuple #[u,v]):=by obtain⟨c1,a1,e1⟩:=h1;obtain⟨c2,a2,e2⟩:=h2;exact⟨[.tuple #[u,v]],⟨[u,v],rfl,c1,[v],a1,⟨c2,[],a2,rfl,by rw[e2];rfl⟩,by rw[e1];rfl⟩,rfl⟩
theorem FE {ok:Nat->Prop} {w:World} {β:Bm} {a b c:AV} {u v x:Value} (h1:aq ok w β a u) (h2:aq ok w β b v) (h3:aq ok w β c x):aq ok w β (.eX (.cons a (.cons b (.cons c .nil)))) (.tuple #[u,v,x]):=by obtain⟨c1,a1,e1⟩:=h1;obtain⟨c2,a2,e2⟩:=h2;obtain⟨c3,a3,e3⟩:=h3;exact⟨[.tuple #[u,v,x]],⟨[u,v,x],rfl,c1,[v,x],a1,⟨c2,[x],a2,⟨c3,[],a3,rfl,by rw[e3];rfl⟩,by rw[e2];rfl⟩,by rw[e1];rfl⟩,rfl⟩
def BN:Nat:=130000000000
theorem BV {j:Nat} (h:130000000000<=j):max BN BN<=j:=by unfold BN;omega
abbrev N1 (x:Nat):Option Prop:=some (Sm BN x)
abbrev N2 (x y:Nat):Option Prop:=some (Sm BN x/\Sm BN y)
abbrev T2 (a b:AV):AV:=.eX (.cons a (.cons b .nil))
abbrev T3 (a b c:AV):AV:=.eX (.cons a (.cons b (.cons c .nil)))
def Nf:az:=⟨111,false,on1 (.int .u64) (λn=>some (0<=n/\n<18446744073709551616)) λn=>.k .nat (Int.toNat n)⟩
theorem xG:ah (cfg []) Nf:=nB (enters_of Tryz.func111 (by kernel_rfl) rfl) (λ_=>rfl) λF n u w hg ht hu=>by obtain rfl:=hu.int;obtain⟨m,rfl⟩:=uA hg.1;have h2:((m:Nat):Int)<18446744073709551616:=hg.2;exact FD (H5 m (by unfold aa;omega) w)
def VD:az:=⟨106,false,on2 .nat .nat N2 λx y=>.k .nat (x+y:Nat)⟩
theorem Pv:ah (cfg []) VD:=iN (enters_of Tryz.func106 (by kernel_rfl) rfl) (λ_ _=>rfl) λF x y u v w hg ht hu hv=>by obtain rfl:=hu.lu;obtain rfl:=hv.lu;exact FD (aex hg.1 hg.2 w (BV (by omega)))
def Ju:az:=⟨62,false,on2 .nat .nat N2 λx y=>.k .nat (x*y:Nat)⟩
theorem zR:ah (cfg []) Ju:=iN (enters_of Tryz.func62 (by kernel_rfl) rfl) (λ_ _=>rfl) λF x y u v w hg ht hu hv=>by obtain rfl:=hu.lu;obtain rfl:=hv.lu;exact FD (aey hg.1 hg.2 w (BV (by omega)))
def Jv:az:=⟨108,false,on2 .nat .nat N2 λx y=>.k (.int .i64) (bG x y)⟩
theorem zS:ah (cfg []) Jv:=iN (enters_of Tryz.func108 (by kernel_rfl) rfl) (λ_ _=>rfl) λF x y u v w hg ht hu hv=>by obtain rfl:=hu.lu;obtain rfl:=hv.lu;exact VC (aez hg.1 hg.2 w (BV (by omega)))
def vm:az:=⟨105,false,on1 .nat N1 λx=>.k (.int .i64) ((bl x:Nat):Int)⟩
theorem qS:ah (cfg []) vm:=nB (enters_of Tryz.func105 (by kernel_rfl) rfl) (λ_=>rfl) λF x u w hg ht hu=>by obtain rfl:=hu.lu;exact VC (acq hg w (by unfold BN;omega))
def VE:az:=⟨107,false,on2 .nat .nat N2 λx y=>T2 (.k .nat (x-y:Nat)) (.k .bool (decide ((y:Nat)<=x)))⟩
theorem Pw:ah (cfg []) VE:=iN (enters_of Tryz.func107 (by kernel_rfl) rfl) (λ_ _=>rfl) λF x y u v w hg ht hu hv=>by
 obtain rfl:=hu.lu;obtain rfl:=hv.lu;by_cases h:(y:Nat)<=x
 ·exact Calls.mono (aeA hg.1 hg.2 h w (BV (by omega))) λe w' ⟨h1,h2⟩=>⟨_,h1,h2,ph (.Jt _) (by rw[tC h];exact .dN _)⟩
 ·exact Calls.mono (UO hg.1 hg.2 (Nat.lt_of_not_le h) w (BV (by omega))) λe w' ⟨h1,h2⟩=>⟨_,h1,h2,ph (by rw[Nat.sub_eq_zero_of_le (Nat.le_of_not_le h)];exact .Jt _) (by rw[nS h];exact .dN _)⟩
def Jw:az:=⟨109,false,on2 .nat .nat N2 λx y=>T3 (.k .nat (x/y:Nat)) (.k .nat (if (y:Nat)=0 then 0 else x%y)) (.k .bool (!decide ((y:Nat)=0)))⟩
theorem zT:ah (cfg []) Jw:=iN (enters_of Tryz.func109 (by kernel_rfl) rfl) (λ_ _=>rfl) λF x y u v w hg ht hu hv=>by
 obtain rfl:=hu.lu;obtain rfl:=hv.lu;by_cases h:(y:Nat)=0
 ·subst h;exact Calls.mono (div_zero x w) λe w' ⟨h1,h2⟩=>⟨_,h1,h2,FE (by rw[Nat.div_zero];exact .Jt _) (.Jt _) (.dN _)⟩
 ·rw[dw h];exact Calls.mono (cdiv hg.1 hg.2 h w (BV (by omega))) λe w' ⟨h1,h2⟩=>⟨_,h1,h2,FE (.Jt _) (.Jt _) (by rw[nS h];exact .dN _)⟩
def FF:az:=⟨110,false,on1 .nat (λ_=>none) λx=>T2 (.k (.int .u64) (if (x:Nat)<18446744073709551616 then ((x:Nat):Int) else 0)) (.k .bool (decide ((x:Nat)<18446744073709551616)))⟩
theorem FG:ah (cfg []) FF:=nB (enters_of Tryz.func110 (by kernel_rfl) rfl) (λ_=>rfl) λF x u w hg ht hu=>by
 obtain rfl:=hu.lu;by_cases h:(x:Nat)<18446744073709551616
 ·have hx:(x:Nat)<aa:=h;rw[fi h];exact Calls.mono (Oh x hx w) λe w' ⟨h1,h2⟩=>⟨_,h1,h2,ph (.mkInt _ _) (by rw[tC h];exact .dN _)⟩
 ·have hx:aa<=(x:Nat):=Hk h;rw[dw h];exact Calls.mono (Oi x hx w) λe w' ⟨h1,h2⟩=>⟨_,h1,h2,ph (.mkInt _ _) (by rw[nS h];exact .dN _)⟩
def VF:az:=⟨112,false,on2 .nat .nat (λx y=>some ((x:Nat)≠0/\(y:Nat)≠0/\Sm BN x/\Sm BN y)) λx y=>.k .nat (Nat.gcd x y)⟩
theorem Px:ah (cfg []) VF:=iN (enters_of Tryz.func112 (by kernel_rfl) rfl) (λ_ _=>rfl) λF x y u v w hg ht hu hv=>by obtain rfl:=hu.lu;obtain rfl:=hv.lu;obtain⟨h1,h2,h3,h4⟩:=hg;exact FD (BL x y (tU h1) (tU h2) (by unfold Sm BN at h3;omega) (by unfold Sm BN at h4;omega) w ht)
def Jx:az:=⟨134,false,on2 .rn .rn N2 λx y=>.k (.int .i64) (bG x y)⟩
theorem zU:ah (cfg []) Jx:=iN (enters_of Tryz.func134 (by kernel_rfl) rfl) (λ_ _=>rfl) λF x y u v w hg ht hu hv=>VC (ac6 hg.1 hg.2 w hu.xE hv.xE (BV (by omega)))
def aa4:az:=⟨79,false,on1 (.int .u64) (λn=>some (0<=n/\n<18446744073709551616)) λn=>.k .rn (Int.toNat n)⟩
theorem VJ:ah (cfg []) aa4:=nB (enters_of Tryz.func79 (by kernel_rfl) rfl) (λ_=>rfl) λF n u w hg ht hu=>by obtain rfl:=hu.int;obtain⟨m,rfl⟩:=uA hg.1;have h2:((m:Nat):Int)<18446744073709551616:=hg.2;exact xF (xk m (by unfold aa;omega) w)
def VK:az:=⟨132,false,on2 .rn .rn (λx y=>some (Sm BN x/\Sm BN y/\(y:Nat)≠0)) λx y=>T2 (.k .rn (x/y:Nat)) (.k .rn (x%y:Nat))⟩
theorem PB:ah (cfg []) VK:=iN (enters_of Tryz.func132 (by kernel_rfl) rfl) (λ_ _=>rfl) λF x y u v w hg ht hu hv=>by obtain⟨h1,h2,h3⟩:=hg;unfold Sm BN at h1 h2;exact Calls.mono (FC x y u v w hu.xE hv.xE (by omega) (by omega) h3) λ_ _ ⟨p,q,h1,h2,h3,h4⟩=>⟨_,h1,h4,ph (.VB h2) (.VB h3)⟩
def VM:az:=⟨97,false,on1 .rn N1 λx=>.k .nat (x:Nat)⟩
theorem PC:ah (cfg []) VM:=nB (enters_of Tryz.func97 (by kernel_rfl) rfl) (λ_=>rfl) λF x u w hg ht hu=>by have hg:Sm BN x:=hg;exact FD (Bz x (by unfold Sm BN at hg;omega) u w hu.xE)
def BZ:Nat:=64000000000
noncomputable def LN:List az:=Nf::Jv::vm::[]
theorem xH:bd LN:=⟨xG,zS,qS,trivial⟩
def a4u:CF
 | [.k .bool b,.k .nat n]=>some (some (Sm BN n),.k .z (bW b n),[])
 | _=>none
def sj:az:=⟨52,false,a4u⟩
def PD (b:Bool) (n:Nat):bk:=⟨λkey_=>match key_ with | 1=>7 | _=>0,nL,nR,nU⟩
def BW (b:Bool) (n:Nat):Prop:=bif b then Sm BN n/\(decide ((0:Int)<(↑(bl n):Int))=true->n≠0)/\bW (decide ((0:Int)<(↑(bl n):Int))) n=bW b n else (false=true->n≠(0 :
 Nat))/\bW false n=bW b n
theorem Jy (b:Bool) (n:Nat):aw LN [] (PD b n) Tryz.f52 (.k .z (bW b n)) [.k .bool b,.k .nat n]=BW b n:=by kernel_rfl
theorem Jz (b:Bool) (n:Nat) (hg:Sm BN n) (hf:cJ [.k .bool b,.k .nat n]):BW b n:=by
 unfold BW;refine nC (λh=>?_) λh=>?_
 ·subst h;refine⟨hg,λh' e=>?_,?_⟩
  ·have:=(fl n).1 (AB h');omega
  ·rcases gA n with e | e
   ·subst e;rw[gf];rfl
   ·rw[tC ((fl n).2 e)]
 ·subst h;exact⟨λh=>(by cases h),rfl⟩
theorem nG:ah (cfg []) sj:=cf xH bp Tryz.func52 λa _ _ _ hc hg hf=>by change a4u a=_ at hc;unfold a4u at hc;split at hc<;>cases hc;cases aY (Jy _ _) (Jz _ _ hg hf);exact⟨rfl,by kernel_rfl,_,by assumption⟩
def a5g:CF
 | [.k .z x]=>some (none,.k .nat x.natAbs,[])
 | _=>none
def JA:az:=⟨53,false,a5g⟩
def VN (x:Int):bk:=⟨nU,nL,nR,nU⟩
def VO (x:Int):Prop:=x.natAbs=x.natAbs
theorem PE (x:Int):aw LN [] (VN x) Tryz.f53 (.k .nat x.natAbs) [.k .z x]=VO x:=by kernel_rfl
theorem PF (x:Int) (hf:cJ [.k .z x]):VO x:=by rfl
theorem zV:ah (cfg []) JA:=cf xH bp Tryz.func53 λa _ _ _ hc hg hf=>by change a5g a=_ at hc;unfold a5g at hc;split at hc<;>cases hc;cases aY (PE _) (PF _ hf);exact⟨rfl,by kernel_rfl,_,by assumption⟩
def BX:CF
 | [.k .z x]=>some (some (Sm BN x.natAbs),.k (.int .i64) x.sign,[])
 | _=>none
def vn:az:=⟨113,false,BX⟩
def PG (x:Int):bk:=⟨nU,nL,nR,nU⟩
def BY (x:Int):Prop:=bif decide (x<0) then (-1:Int)=x.sign else Sm BN x.natAbs/\bif decide ((0:Int)<(↑(bl x.natAbs):Int)) then (1:Int)=x.sign else (0:Int)=x.sign
theorem JB (x:Int):aw LN [] (PG x) Tryz.f113 (.k (.int .i64) x.sign) [.k .z x]=BY x:=by kernel_rfl
theorem JC (x:Int) (hg:Sm BN x.natAbs):BY x:=by
 unfold BY;refine aH (λh=>(xD h).symm) λh=>⟨hg,aH (λh2=>?_) λh2=>?_⟩
 ·have:=(fl _).1 h2;exact(vw (by omega)).symm
 ·have h3:¬0<x.natAbs:=λh3=>h2 ((fl _).2 h3);have:x=0:=by omega
  subst this;rfl
theorem qT:ah (cfg []) vn:=cf xH bp Tryz.func113 λa _ _ _ hc hg hf=>by change BX a=_ at hc;unfold BX at hc;split at hc<;>cases hc;cases aY (JB _) (JC _ hg);exact⟨rfl,by kernel_rfl,_,by assumption⟩
def a5h:CF
 | [.k .z x,.k .z y]=>some (some (Sm BN x.natAbs/\Sm BN y.natAbs),.k (.int .i64) (dS x y),[])
 | _=>none
def VP:az:=⟨70,false,a5h⟩
def VQ (x y:Int):bk:=⟨nU,nL,nR,nU⟩
def JD (x y:Int):Prop:=bif decide (x<0) then bif decide (y<0) then (Sm BN y.natAbs/\Sm BN x.natAbs)/\bG y.natAbs x.natAbs=dS x y else bif decide (x<0) then
 (-1:Int)=dS x y else bif decide (y<0) then (1:Int)=dS x y else (Sm BN x.natAbs/\Sm BN y.natAbs)/\bG x.natAbs y.natAbs=dS x y else bif decide
 (x<0) then (-1:Int)=dS x y else bif decide (y<0) then (1:Int)=dS x y else (Sm BN x.natAbs/\Sm BN y.natAbs)/\bG x.natAbs y.natAbs =
 dS x y
theorem PH (x y:Int):aw LN [] (VQ x y) Tryz.f70 (.k (.int .i64) (dS x y)) [.k .z x,.k .z y]=JD x y:=by kernel_rfl
theorem PI (x y:Int) (hg:Sm BN x.natAbs/\Sm BN y.natAbs):JD x y:=by unfold JD;obtain⟨h1,h2⟩:=hg;refine aH (λhx=>aH (λhy=>⟨⟨h2,h1⟩,Ym hx hy⟩) λhy=>aH (λ_=>Yn hx hy) λh=>absurd hx h) λhx=>aH (λh=>absurd h hx) λ_=>aH (λhy=>Yo hx hy) λhy=>⟨⟨h1,h2⟩,Yl hx hy⟩
theorem PJ:ah (cfg []) VP:=cf xH bp Tryz.func70 λa _ _ _ hc hg hf=>by change a5h a=_ at hc;unfold a5h at hc;split at hc<;>cases hc;cases aY (PH _ _) (PI _ _ hg);exact⟨rfl,by kernel_rfl,_,by assumption⟩
def a5i:CF
 | [.k (.int .i64) n]=>some (some (ax n),.k .z n,[])
 | _=>none
def VR:az:=⟨63,false,a5i⟩
def VS (n:Int):bk:=⟨nU,nL,nR,nU⟩
def JE (n:Int):Prop:=
 let t1:=(0:Int)-IntKind.u64.wrap n;
 bif decide (n<0) then ((0:Int)<=IntKind.u64.wrap t1/\IntKind.u64.wrap t1<(18446744073709551616:Int))/\(true=true->(IntKind.u64.wrap t1).toNat≠(0 :
 Nat))/\bW true (IntKind.u64.wrap t1).toNat=n else ((0:Int)<=IntKind.u64.wrap n/\IntKind.u64.wrap n<(18446744073709551616:Int))/\(false=true ->
 (IntKind.u64.wrap n).toNat≠0)/\bW false (IntKind.u64.wrap n).toNat=n
theorem PK (n:Int):aw LN [] (VS n) Tryz.f63 (.k .z n) [.k (.int .i64) n]=JE n:=by kernel_rfl
theorem PL (n:Int) (hg:ax n):JE n:=by
 unfold JE;have h1 : -9223372036854775808<=n:=hg.1;have h2:n<=9223372036854775807:=hg.2;refine aH (λh=>?_) λh=>?_
 ·have e:IntKind.u64.wrap ((0:Int)-IntKind.u64.wrap n) = -n:=by simp[IntKind.wrap,IntKind.signed,IntKind.bits];omega
  rw[e];refine⟨⟨by omega,by omega⟩,λ_=>by omega,?_⟩;show -((Int.toNat (-n):Nat):Int)=n;omega
 ·have e:IntKind.u64.wrap n=n:=by simp[IntKind.wrap,IntKind.signed,IntKind.bits];omega
  rw[e];refine⟨⟨by omega,by omega⟩,λh=>by (cases h),?_⟩;show((Int.toNat n:Nat):Int)=n;omega
theorem PM:ah (cfg []) VR:=cf xH bp Tryz.func63 λa _ _ _ hc hg hf=>by change a5i a=_ at hc;unfold a5i at hc;split at hc<;>cases hc;cases aY (PK _) (PL _ hg);exact⟨rfl,by kernel_rfl,_,by assumption⟩
noncomputable def VT:List az:=sj::Nf::VD::Ju::Jv::vm::VE::Jw::FF::VF::[]
theorem vo:bd VT:=⟨nG,xG,Pv,zR,zS,qS,Pw,zT,FG,Px,trivial⟩
def JF:CF
 | [.k .z x]=>(λ(x:Int)=>some (some (Sm BN x.natAbs),.k .z (-x:Int),[])) x
 | _=>none
def JG:az:=⟨139,false,JF⟩
def VU (x:Int):bk:=⟨nU,nL,nR,nU⟩
def JH (x:Int):Prop:=Sm BN x.natAbs/\bW (!decide (x<0)) x.natAbs = -x
theorem PN (x:Int):aw VT [] (VU x) Tryz.f139 (.k .z (-x:Int)) [.k .z x]=JH x:=by kernel_rfl
theorem PO (x:Int) (hg:Sm BN x.natAbs):JH x:=by
 unfold JH;refine⟨hg,?_⟩;unfold bW;by_cases hx:x<0
 ·rw[tC hx];show((x.natAbs:Nat):Int) = -x;omega
 ·rw[nS hx];show -((x.natAbs:Nat):Int) = -x;omega
theorem zW:ah (cfg []) JG:=cf vo bp Tryz.func139 λa _ _ _ hc hg hf=>by change JF a=_ at hc;unfold JF at hc;split at hc<;>cases hc;cases aY (PN _) (PO _ hg);exact⟨rfl,by kernel_rfl,_,by assumption⟩
def JI:CF
 | [.k .z x,.k .z y]=>some (some (Sm BZ x.natAbs/\Sm BZ y.natAbs),.k .z (x+y:Int),[])
 | _=>none
def VV:az:=⟨55,false,JI⟩
def VW (x y:Int):bk:=⟨λkey_=>match key_ with | 2=>7 | _=>0,nL,nR,nU⟩
def JJ (x y:Int):Prop:=bif decide (x<0) == decide (y<0) then (Sm BN x.natAbs/\Sm BN y.natAbs)/\Sm BN (x.natAbs+y.natAbs)/\bW (decide (x<0)) (x.natAbs +
 y.natAbs)=x+y else (Sm BN x.natAbs/\Sm BN y.natAbs)/\bif decide (y.natAbs<=x.natAbs) then Sm BN (x.natAbs-y.natAbs)/\bW (decide (x<0)) (x.natAbs -
 y.natAbs)=x+y else (Sm BN y.natAbs/\Sm BN x.natAbs)/\Sm BN (y.natAbs-x.natAbs)/\bW (decide (y<0)) (y.natAbs-x.natAbs)=x+y
theorem PR (x y:Int):aw VT [] (VW x y) Tryz.f55 (.k .z (x+y:Int)) [.k .z x,.k .z y]=JJ x y:=by kernel_rfl
theorem PS (x y:Int) (hg:Sm BZ x.natAbs/\Sm BZ y.natAbs):JJ x y:=by
 unfold JJ;obtain⟨h1,h2⟩:=hg;have b1:Sm BN x.natAbs:=h1.le (by unfold BZ BN;omega);have b2:Sm BN y.natAbs:=h2.le (by unfold BZ BN;omega);refine nC (λh=>⟨⟨b1,b2⟩,(h1.add h2).le (by unfold BZ BN;omega),?_⟩) λh=>⟨⟨b1,b2⟩,aH (λh'=>⟨b1.sub _,?_⟩) λh'=>⟨⟨b2,b1⟩,b2.sub _,?_⟩⟩
 all_goals unfold bW;by_cases hx:x<0<;>by_cases hy:y<0<;>simp[hx,hy] at h ⊢<;>omega
theorem PT:ah (cfg []) VV:=cf vo bp Tryz.func55 λa _ _ _ hc hg hf=>by change JI a=_ at hc;unfold JI at hc;split at hc<;>cases hc;cases aY (PR _ _) (PS _ _ hg);exact⟨rfl,by kernel_rfl,_,by assumption⟩
def JK:CF
 | [.k .z x,.k .z y]=>some (some (Sm BZ x.natAbs/\Sm BZ y.natAbs),.k .z (x*y:Int),[])
 | _=>none
def JL:az:=⟨65,false,JK⟩
def VX (x y:Int):bk:=⟨λkey_=>match key_ with | 1=>10 | _=>0,nL,nR,nU⟩
def JM (x y:Int):Prop:=(Sm BN x.natAbs/\Sm BN y.natAbs)/\Sm BN (x.natAbs*y.natAbs)/\bW (!decide (x<0) == decide (y<0)) (x.natAbs*y.natAbs)=x*y
theorem PU (x y:Int):aw VT [] (VX x y) Tryz.f65 (.k .z (x*y:Int)) [.k .z x,.k .z y]=JM x y:=by kernel_rfl
theorem PV (x y:Int) (hg:Sm BZ x.natAbs/\Sm BZ y.natAbs):JM x y:=by unfold JM;obtain⟨h1,h2⟩:=hg;exact⟨⟨h1.le (by unfold BZ BN;omega),h2.le (by unfold BZ BN;omega)⟩,(h1.mul h2).le (by unfold BZ BN;omega),vL rfl rfl⟩
theorem zX:ah (cfg []) JL:=cf vo bp Tryz.func65 λa _ _ _ hc hg hf=>by change JK a=_ at hc;unfold JK at hc;split at hc<;>cases hc;cases aY (PU _ _) (PV _ _ hg);exact⟨rfl,by kernel_rfl,_,by assumption⟩
theorem zY {p q g:Nat} (hp:Sm BN p) (hq:Sm BN q) (h0:q≠0) (hqp:q<p) (e:p.gcd q=g) :
 bif decide (p<(18446744073709551616:Nat)) then
 ∃(x0:Nat×Nat),
 (((if p<(18446744073709551616:Nat) then (p:Int) else (0:Int))=(x0.fst:Int) /\
 (if q<(18446744073709551616:Nat) then (q:Int) else (0:Int))=(x0.snd:Int))/\(0:Nat)=(0:Nat)) /\
 (x0.fst<(18446744073709551616:Nat)/\x0.snd<(18446744073709551616:Nat)/\x0.fst.gcd x0.snd=g) /\
 ∀(fg:Nat×Nat),
 fg.fst<(18446744073709551616:Nat)/\fg.snd<(18446744073709551616:Nat)/\fg.fst.gcd fg.snd=g ->
 bif decide ((0:Int)<(fg.snd:Int)) then
 (fg.snd:Int)≠(0:Int) /\
 ∃(x':Nat×Nat),
 (((fg.snd:Int)=(x'.fst:Int)/\(fg.fst:Int).tmod (fg.snd:Int)=(x'.snd:Int))/\(0:Nat)=(0:Nat)) /\
 (x'.fst<(18446744073709551616:Nat)/\x'.snd<(18446744073709551616:Nat)/\x'.fst.gcd x'.snd=g)/\x'.snd<fg.snd
 else ((0:Int)<=(fg.fst:Int)/\(fg.fst:Int)<(18446744073709551616:Int))/\(fg.fst:Int).toNat=g
 else (p≠(0:Nat)/\q≠(0:Nat)/\Sm BN p/\Sm BN q)/\p.gcd q=g:=by
 refine aH (λh=>⟨(p,q),⟨⟨fi h,fi (by omega)⟩,rfl⟩,⟨h,by show q<_;omega,e⟩,λ⟨a,b⟩ ⟨h1,h2,h3⟩=>?_⟩) λh=>⟨⟨by omega,h0,hp,hq⟩,e⟩
 dsimp only at h1 h2 h3 ⊢
 refine aH (λh4=>?_) λh4=>⟨⟨by omega,by omega⟩,?_⟩
 ·have hb:0<b:=by omega
  have hm:a%b<b:=pv _ hb
  refine⟨by omega,(b,a%b),⟨⟨rfl,?_⟩,rfl⟩,⟨h2,by show a%b<_;omega,?_⟩,hm⟩
  ·show(a:Int).tmod (b:Int)=((a%b:Nat):Int)
   rw[Ad (by omega)];rfl
  ·rw[<-h3];show b.gcd (a%b)=a.gcd b
   rw[CN a b,Hj b a,CN]
 ·have:b=0:=by omega
  subst this
  rw[G5] at h3
  rw[<-h3];rfl
def JN:CF
 | [.k .z x,.k .z y]=>some (some (Sm BN x.natAbs/\Sm BN y.natAbs),.k .nat (Nat.gcd x.natAbs y.natAbs),[])
 | _=>none
def VY:az:=⟨56,false,JN⟩
def VZ (x y:Int):bk:=⟨λkey_=>match key_ with | 1=>7 | 7=>3 | 14=>4 | _=>0,λkey_=>match key_ with
 | 13=>some (⟨Nat×Nat,λp=>[(4,.pt 4 0 2 0 0),(10,.k (.int .u64) ((p.1:Nat):Int)),(12,.k (.int .u64) ((p.2:Nat):Int))],
 λ_=>[(4,.box 36 (.k .nat (0:Nat)))],λ_ p=>p.1<18446744073709551616/\p.2<18446744073709551616/\Nat.gcd p.1 p.2=Nat.gcd x.natAbs y.natAbs,λp=>p.2⟩) | _=>none,λkey_=>match key_ with
 | 1=>some (⟨Unit,λ_=>[(4,.pt 4 0 2 0 0),(5,.pt 5 0 2 0 0),(6,.pt 6 0 2 0 0)],λ_=>[(4,.box 36 (.k .nat (0:Nat))),(5,.box 36 (.k .nat x.natAbs)),(6,.box 36 (.k .nat y.natAbs))]⟩)
 | 7=>some (⟨Nat×Nat,λ_=>[(4,.pt 4 0 2 0 0),(5,.pt 5 0 2 0 0),(6,.pt 6 0 2 0 0)],λp=>[(4,.box 36 (.k .nat (0:Nat))),(5,.box 36 (.k .nat p.1)),(6,.box 36 (.k .nat p.2))]⟩) | _=>none,nU⟩
def ag (x y:Int):Prop:=(0:Nat)=(0:Nat)/\x.natAbs=x.natAbs/\y.natAbs=y.natAbs
def JO (x y:Int):Prop:=∃(y1:Unit),(((((ag x y/\ag x y)/\(ag x y/\ag x y/\ag x y)/\ag x y/\ag x y/\ag x y)/\((ag x y/\ag x y/\ag x y)/\(ag x y
 /\ ag x y)/\ag x y)/\(ag x y/\ag x y/\ag x y)/\(ag x y/\ag x y)/\ag x y)/\(((ag x y/\ag x y)/\(ag x y/\ag x y/\ag x y) /\
 ag x y/\ag x y/\ag x y)/\((ag x y/\ag x y)/\(ag x y/\ag x y)/\ag x y/\ag x y)/\((ag x y/\ag x y/\ag x y)/\(ag x y /\
 ag x y)/\(ag x y/\ag x y)/\ag x y)/\(ag x y/\ag x y/\ag x y)/\(ag x y/\ag x y)/\(ag x y/\ag x y)/\ag x y)/\(((ag x y /\
 ag x y/\ag x y)/\(ag x y/\ag x y)/\ag x y)/\((ag x y/\ag x y/\ag x y)/\(ag x y/\ag x y)/\(ag x y/\ag x y)/\ag x y) /\
 ((ag x y/\ag x y)/\ag x y)/\(ag x y/\ag x y)/\ag x y)/\((ag x y/\ag x y/\ag x y)/\(ag x y/\ag x y)/\ag x y)/\((ag x y /\
 ag x y/\ag x y)/\(ag x y/\ag x y)/\(ag x y/\ag x y)/\ag x y)/\((ag x y/\ag x y)/\ag x y)/\(ag x y/\ag x y)/\ag x y) /\
 ((((ag x y/\ag x y)/\(ag x y/\ag x y/\ag x y)/\ag x y/\ag x y/\ag x y)/\((ag x y/\ag x y)/\(ag x y/\ag x y)/\ag x y /\
 ag x y)/\((ag x y/\ag x y/\ag x y)/\(ag x y/\ag x y)/\(ag x y/\ag x y)/\ag x y)/\(ag x y/\ag x y/\ag x y)/\(ag x y /\
 ag x y)/\(ag x y/\ag x y)/\ag x y)/\(((ag x y/\ag x y)/\(ag x y/\ag x y)/\ag x y/\ag x y)/\((ag x y/\ag x y)/\ag x y) /\
 (ag x y/\ag x y)/\ag x y)/\(((ag x y/\ag x y/\ag x y)/\(ag x y/\ag x y)/\(ag x y/\ag x y)/\ag x y)/\((ag x y/\ag x y) /\
 ag x y)/\((ag x y/\ag x y)/\ag x y)/\ag x y)/\((ag x y/\ag x y/\ag x y)/\(ag x y/\ag x y)/\(ag x y/\ag x y)/\ag x y) /\
 ((ag x y/\ag x y)/\ag x y)/\((ag x y/\ag x y)/\ag x y)/\ag x y)/\((((ag x y/\ag x y/\ag x y)/\(ag x y/\ag x y)/\ag x y)
 /\ ((ag x y/\ag x y/\ag x y)/\(ag x y/\ag x y)/\(ag x y/\ag x y)/\ag x y)/\((ag x y/\ag x y)/\ag x y)/\(ag x y/\ag x y)
 /\ ag x y)/\(((ag x y/\ag x y/\ag x y)/\(ag x y/\ag x y)/\(ag x y/\ag x y)/\ag x y)/\((ag x y/\ag x y)/\ag x y)/\((ag x
 y/\ag x y)/\ag x y)/\ag x y)/\(((ag x y/\ag x y)/\ag x y)/\(ag x y/\ag x y)/\ag x y)/\((ag x y/\ag x y)/\ag x y)/\ag x
 y)/\(((ag x y/\ag x y/\ag x y)/\(ag x y/\ag x y)/\ag x y)/\((ag x y/\ag x y/\ag x y)/\(ag x y/\ag x y)/\(ag x y/\ag x
 y)/\ag x y)/\((ag x y/\ag x y)/\ag x y)/\(ag x y/\ag x y)/\ag x y)/\(((ag x y/\ag x y/\ag x y)/\(ag x y/\ag x y)/\(ag
 x y/\ag x y)/\ag x y)/\((ag x y/\ag x y)/\ag x y)/\((ag x y/\ag x y)/\ag x y)/\ag x y)/\(((ag x y/\ag x y)/\ag x y) /\
 (ag x y/\ag x y)/\ag x y)/\((ag x y/\ag x y)/\ag x y)/\ag x y)/\(Sm BN x.natAbs/\Sm BN y.natAbs)/\bif decide (bG x.natAbs y.natAbs<(0 :
 Int)) then Sm BN x.natAbs/\bif decide ((↑(bl x.natAbs):Int)=0) then y.natAbs=x.natAbs.gcd y.natAbs else (Sm BN y.natAbs/\Sm BN x.natAbs)/\∃(y2:Nat ×
 Nat),((((0:Nat)=(0:Nat)/\x.natAbs=y2.1/\(if x.natAbs=(0:Nat) then (0:Nat) else y.natAbs%x.natAbs)=y2.2)/\(0:Nat)=(0:Nat)/\x.natAbs=y2.1 /\
 (if x.natAbs=(0:Nat) then (0:Nat) else y.natAbs%x.natAbs)=y2.2)/\(0:Nat)=(0:Nat)/\x.natAbs=y2.1/\(if x.natAbs=(0:Nat) then (0:Nat) else
 y.natAbs%x.natAbs)=y2.2)/\Sm BN y2.2/\bif decide ((↑(bl y2.2):Int)=0) then y2.1=x.natAbs.gcd y.natAbs else bif decide (y2.1<(18446744073709551616 :
 Nat)) then ∃(x0:Nat×Nat),(((if y2.1<(18446744073709551616:Nat) then (↑y2.1:Int) else (0:Int))=(↑x0.1:Int)/\(if y2.2<(18446744073709551616:Nat) then
 (↑y2.2:Int) else (0:Int))=(↑x0.2:Int))/\(0:Nat)=0)/\(x0.1<(18446744073709551616:Nat)/\x0.2<(18446744073709551616:Nat)/\x0.1.gcd x0.2 =
 x.natAbs.gcd y.natAbs)/\∀(y3:Nat×Nat),y3.1<(18446744073709551616:Nat)/\y3.2<(18446744073709551616:Nat)/\y3.1.gcd y3.2=x.natAbs.gcd y.natAbs->bif
 decide ((0:Int)<(↑y3.2:Int)) then (↑y3.2:Int)≠(0:Int)/\∃(x':Nat×Nat),(((↑y3.2:Int)=↑x'.1/\(↑y3.1:Int).tmod (↑y3.2:Int)=(↑x'.2 :
 Int))/\(0:Nat)=0)/\(x'.1<(18446744073709551616:Nat)/\x'.2<(18446744073709551616:Nat)/\x'.1.gcd x'.2=x.natAbs.gcd y.natAbs)/\x'.2<y3.2 else
 (0<=(↑y3.1:Int)/\(↑y3.1:Int)<(18446744073709551616:Int))/\(↑y3.1:Int).toNat=x.natAbs.gcd y.natAbs else (y2.1≠(0:Nat)/\y2.2≠(0:Nat)/\Sm BN
 y2.1/\Sm BN y2.2)/\y2.1.gcd y2.2=x.natAbs.gcd y.natAbs else Sm BN y.natAbs/\bif decide ((↑(bl y.natAbs):Int)=0) then x.natAbs=x.natAbs.gcd y.natAbs
 else (Sm BN x.natAbs/\Sm BN y.natAbs)/\∃(y2:Nat×Nat),((((0:Nat)=(0:Nat)/\y.natAbs=y2.1/\(if y.natAbs=(0:Nat) then (0:Nat) else x.natAbs %
 y.natAbs)=y2.2)/\(0:Nat)=(0:Nat)/\y.natAbs=y2.1/\(if y.natAbs=(0:Nat) then (0:Nat) else x.natAbs%y.natAbs)=y2.2)/\(0:Nat)=(0:Nat)/\y.natAbs
 = y2.1/\(if y.natAbs=(0:Nat) then (0:Nat) else x.natAbs%y.natAbs)=y2.2)/\Sm BN y2.2/\bif decide ((↑(bl y2.2):Int)=0) then y2.1=x.natAbs.gcd
 y.natAbs else bif decide (y2.1<(18446744073709551616:Nat)) then ∃(x0:Nat×Nat),(((if y2.1<(18446744073709551616:Nat) then (↑y2.1:Int) else (0:Int)) =
 (↑x0.1:Int)/\(if y2.2<(18446744073709551616:Nat) then (↑y2.2:Int) else (0:Int))=(↑x0.2:Int))/\(0:Nat)=0)/\(x0.1<(18446744073709551616 :
 Nat)/\x0.2<(18446744073709551616:Nat)/\x0.1.gcd x0.2=x.natAbs.gcd y.natAbs)/\∀(y3:Nat×Nat),y3.1<(18446744073709551616:Nat)/\y3.2 <
 (18446744073709551616:Nat)/\y3.1.gcd y3.2=x.natAbs.gcd y.natAbs->bif decide ((0:Int)<(↑y3.2:Int)) then (↑y3.2:Int)≠(0:Int)/\∃(x':Nat×Nat),
 (((↑y3.2:Int)=↑x'.1/\(↑y3.1:Int).tmod (↑y3.2:Int)=↑x'.2)/\(0:Nat)=0)/\(x'.1<(18446744073709551616:Nat)/\x'.2 <
 (18446744073709551616:Nat)/\x'.1.gcd x'.2=x.natAbs.gcd y.natAbs)/\x'.2<y3.2 else (0<=(↑y3.1:Int)/\(↑y3.1:Int)<(18446744073709551616:Int)) /\
 (↑y3.1:Int).toNat=x.natAbs.gcd y.natAbs else (y2.1≠(0:Nat)/\y2.2≠(0:Nat)/\Sm BN y2.1/\Sm BN y2.2)/\y2.1.gcd y2.2=x.natAbs.gcd y.natAbs
theorem PW (x y:Int):aw VT [] (VZ x y) Tryz.f56 (.k .nat (Nat.gcd x.natAbs y.natAbs)) [.k .z x,.k .z y]=JO x y:=by kernel_rfl
theorem PX (x y:Int) (hg:Sm BN x.natAbs/\Sm BN y.natAbs):JO x y:=by
 unfold JO;obtain⟨h1,h2⟩:=hg;have ZJ:∀{n:Nat},((bl n:Nat):Int)=0->n=0:=fun {n} h=>by
  rcases gA n with e | e
  ·exact e
  ·have:=(fl n).2 e;omega
 have PY:∀{n:Nat},¬((bl n:Nat):Int)=0->n≠0:=fun {n} h e=>h (by rw[e,gf];rfl);refine⟨(),by simp[ag],⟨h1,h2⟩,aH (λhc=>⟨h1,aH (λh=>?_) λh=>⟨⟨h2,h1⟩,(x.natAbs,y.natAbs%x.natAbs),?_,(h2.mod _),aH (λh3=>?_) λh3=>zY h1 (h2.mod _) (PY h3) (pv _ (tU (PY h))) ?_⟩⟩) λhc=>⟨h2,aH (λh=>?_) λh=>⟨⟨h1,h2⟩,(y.natAbs,x.natAbs%y.natAbs),?_,(h1.mod _),aH (λh3=>?_) λh3=>zY h2 (h1.mod _) (PY h3) (pv _ (tU (PY h))) ?_⟩⟩⟩
 ·rw[ZJ h,Nat.gcd_zero_left]
 ·rw[dw (PY h)];simp
 ·exact(Nat.gcd_eq_left (Nat.dvd_of_mod_eq_zero (ZJ h3))).symm
 ·rw[Hj x.natAbs y.natAbs,CN]
 ·rw[ZJ h,G5]
 ·rw[dw (PY h)];simp
 ·exact(Nat.gcd_eq_right (Nat.dvd_of_mod_eq_zero (ZJ h3))).symm
 ·rw[CN x.natAbs y.natAbs,Hj y.natAbs x.natAbs,CN]
theorem PZ:ah (cfg []) VY:=cf vo bp Tryz.func56 λa _ _ _ hc hg hf=>by change JN a=_ at hc;unfold JN at hc;split at hc<;>cases hc;cases aY (PW _ _) (PX _ _ hg);exact⟨rfl,by kernel_rfl,_,by assumption⟩
def BQ:Nat:=20000000000
theorem B1 {n:Nat}:((bl n:Nat):Int)=1↔n=1:=by
 constructor
 ·intro h;have h1:bl n<=1:=by omega
  have h2:=(fZ n 1).1 h1;have h3:(0:Int)<((bl n:Nat):Int):=by omega
  have h4:=(fl n).1 h3;omega
 ·intro h;subst h;have h1:=(fl 1).2 (by omega);have h2:bl 1<=1:=(fZ 1 1).2 (by omega);omega
theorem ZK {n:Nat}:((bl n:Nat):Int)=0↔n=0:=by
 constructor
 ·intro h;rcases gA n with e | e
  ·exact e
  ·have:=(fl n).2 e;omega
 ·intro h;rw[h,gf];rfl
theorem FH {x:Rat}:d1 x.den=0↔x.den=1:=by unfold d1;have:=x.den_pos;split<;>omega
theorem afz {k d:Nat} (h:Sm k d):Sm k (d1 d):=by
 unfold d1;split
 ·exact Sm.zero k
 ·exact h
theorem afA {k a b:Nat} (ha:Sm k a) (h0:a≠0):Sm k (Nat.gcd a b):=ha.mono (GO (by omega) (yx _ _))
theorem zZ {k a b:Nat} (hb:Sm k b) (h0:b≠0):Sm k (Nat.gcd a b):=hb.mono (GO (by omega) (Cr _ _))
theorem fN (n:Int):j6 n 0=(n:Rat):=by unfold j6;rw[fi rfl,GP]
theorem adb {n:Int} {d:Nat} (h:d≠0):j6 n d=mkRat n d:=by unfold j6;rw[dw h]
theorem ZL (x:Rat):j6 x.num (d1 x.den)=x:=by
 unfold j6 d1;have h:=yo x;have:=x.den_pos;by_cases e:x.den=1
 ·rw[fi e,fi rfl];rw[e] at h;exact h
 ·rw[dw e,dw (by omega)];exact h
theorem Ng (n:Int) {m:Int} (h:m<0):mkRat (-n) m.natAbs=(n:Rat)/(m:Rat):=by rw[<-Hh,<-Rat.neg_divInt_neg,show -m=((m.natAbs:Nat):Int) from by omega,Hq]
theorem mk_pos (n:Int) {m:Int} (h:¬m<0):mkRat n m.natAbs=(n:Rat)/(m:Rat):=by rw[<-Hh,<-Hq,show((m.natAbs:Nat):Int)=m from by omega]
theorem ZM {y:Rat} (h0:y≠0):mkRat (bW (decide (y.num.sign<0)) y.den) y.num.natAbs=y⁻¹/\(bW (decide (y.num.sign<0)) y.den).natAbs.Coprime y.num.natAbs:=by
 have hn:y.num≠0:=λe=>h0 (CY.1 e);have e1:bW (decide (y.num.sign<0)) y.den=(y⁻¹).num:=by
  rw[Rat.num_inv];rcases Int.lt_or_gt_of_ne hn with h | h
  ·rw[xD h,show decide ((-1:Int)<0)=true from rfl];show -((y.den:Nat):Int)=_;omega
  ·rw[vw h,show decide ((1:Int)<0)=false from rfl];show((y.den:Nat):Int)=_;omega
 have e2:(y⁻¹).den=y.num.natAbs:=by rw[Rat.den_inv,dw hn]
 rw[e1,<-e2];exact⟨yo _,(y⁻¹).reduced⟩
theorem P0 {x y:Rat} (hx:Sq BQ x) (hy:Sq BQ y) {g a b h:Nat} {u:Int} (hg:g=x.den.gcd y.den) (ha:a=x.den/g) (hb:b=y.den/g) (hu:u=x.num*b+y.num*a) (hh:h=u.natAbs.gcd g) :
  Sq BQ x/\Sm BN x.den/\Sq BQ y/\Sm BN y.den/\(Sm BN x.den/\Sm BN y.den)/\Sq BQ x/\(Sm BN x.den/\Sm BN g/\g≠0)/\Sq BQ y/\(Sm BN y.den/\Sm BN g/\g≠0)/\(Sm BZ x.num.natAbs/\Sm BZ b)/\(Sm BZ y.num.natAbs/\Sm BZ a)/\(Sm BZ (x.num*(b:Int)).natAbs/\Sm BZ (y.num*(a:Int)).natAbs)/\Sm BN g/\(Sm BN u.natAbs/\Sm BN g)/\(Sm BZ u.natAbs/\Sm BZ h/\h≠0/\h∣u.natAbs)/\Sq BQ y/\(Sm BN y.den/\Sm BN h/\h≠0)/\(Sm BN a/\Sm BN (y.den/h))/\(Sm BN (a*(y.den/h))/\a*(y.den/h)≠0/\(u/(h:Int)).natAbs.Coprime (a*(y.den/h)))/\mkRat (u/(h:Int)) (a*(y.den/h))=x+y:=by
 obtain⟨k1,k2⟩:=add_eq x y hg ha hb hu hh
 have gp:g≠0:=by rw[hg];exact CM (Gf _ x.den_pos)
 have hp:h≠0:=by rw[hh];exact CM (ym _ (tU gp))
 have sg:Sm BQ g:=by rw[hg];exact afA hx.den x.den_nz
 have sh:Sm BQ h:=by rw[hh];exact zZ sg gp
 have sa:Sm BQ a:=by rw[ha];exact hx.den.div _
 have sb:Sm BQ b:=by rw[hb];exact hy.den.div _
 have p1:Sm (BQ+BQ) (x.num*(b:Int)).natAbs:=by rw[Af];exact hx.num.mul sb
 have p2:Sm (BQ+BQ) (y.num*(a:Int)).natAbs:=by rw[Af];exact hy.num.mul sa
 have su:Sm (BQ+BQ+1) u.natAbs:=by rw[hu];exact(p1.S7 p2).le (by omega)
 have l1:BQ<=BN:=by unfold BQ BN;omega
 have l2:BQ<=BZ:=by unfold BQ BZ;omega
 have l3:BQ+BQ+1<=BZ:=by unfold BQ BZ;omega
 have l4:BQ+BQ+1<=BN:=by unfold BQ BN;omega
 rw[k1,k2]
 exact⟨hx,hx.den.le l1,hy,hy.den.le l1,⟨hx.den.le l1,hy.den.le l1⟩,hx,⟨hx.den.le l1,sg.le l1,gp⟩,hy,⟨hy.den.le l1,sg.le l1,gp⟩,⟨hx.num.le l2,sb.le l2⟩,⟨hy.num.le l2,sa.le l2⟩,⟨p1.le (by omega),p2.le (by omega)⟩,sg.le l1,⟨su.le l4,sg.le l1⟩,⟨su.le l3,sh.le l2,hp,by rw[hh];exact yx _ _⟩,hy,⟨hy.den.le l1,sh.le l1,hp⟩,⟨sa.le l1,(hy.den.div _).le l1⟩,⟨(hx.add hy).den.le l4,(x+y).den_nz,(x+y).reduced⟩,yo _⟩
theorem P2 {x y:Rat} (hx:Sq BQ x) (hy:Sq BQ y) {g h:Nat} (hg:g=x.num.natAbs.gcd y.den) (hh:h=y.num.natAbs.gcd x.den) :
  Sq BQ y/\Sm BN y.den/\(Sm BN x.num.natAbs/\Sm BN y.den)/\Sq BQ x/\Sm BN x.den/\(Sm BN y.num.natAbs/\Sm BN x.den)/\(Sm BZ x.num.natAbs/\Sm BZ g/\g≠0/\g∣x.num.natAbs)/\(Sm BZ y.num.natAbs/\Sm BZ h/\h≠0/\h∣y.num.natAbs)/\(Sm BZ (x.num/(g:Int)).natAbs/\Sm BZ (y.num/(h:Int)).natAbs)/\Sq BQ x/\(Sm BN x.den/\Sm BN h/\h≠0)/\Sq BQ y/\(Sm BN y.den/\Sm BN g/\g≠0)/\(Sm BN (x.den/h)/\Sm BN (y.den/g))/\(Sm BN (x.den/h*(y.den/g))/\x.den/h*(y.den/g)≠0/\(x.num/(g:Int)*(y.num/(h:Int))).natAbs.Coprime (x.den/h*(y.den/g)))/\mkRat (x.num/(g:Int)*(y.num/(h:Int))) (x.den/h*(y.den/g))=x*y:=by
 obtain⟨k1,k2⟩:=mul_eq x y hg hh
 have gp:g≠0:=by rw[hg];exact CM (ym _ y.den_pos)
 have hp:h≠0:=by rw[hh];exact CM (ym _ x.den_pos)
 have sg:Sm BQ g:=by rw[hg];exact zZ hy.den y.den_nz
 have sh:Sm BQ h:=by rw[hh];exact zZ hx.den x.den_nz
 have dg:g∣x.num.natAbs:=by rw[hg];exact yx _ _
 have dh:h∣y.num.natAbs:=by rw[hh];exact yx _ _
 have l1:BQ<=BN:=by unfold BQ BN;omega
 have l2:BQ<=BZ:=by unfold BQ BZ;omega
 have l4:BQ+BQ<=BN:=by unfold BQ BN;omega
 rw[k1,k2]
 exact⟨hy,hy.den.le l1,⟨hx.num.le l1,hy.den.le l1⟩,hx,hx.den.le l1,⟨hy.num.le l1,hx.den.le l1⟩,⟨hx.num.le l2,sg.le l2,gp,dg⟩,⟨hy.num.le l2,sh.le l2,hp,dh⟩,⟨(hx.num.S9 (tU gp) dg).le l2,(hy.num.S9 (tU hp) dh).le l2⟩,hx,⟨hx.den.le l1,sh.le l1,hp⟩,hy,⟨hy.den.le l1,sg.le l1,gp⟩,⟨(hx.den.div _).le l1,(hy.den.div _).le l1⟩,⟨(hx.mul hy).den.le l4,(x*y).den_nz,(x*y).reduced⟩,yo _⟩
noncomputable def B2:List az:=vm::Jw::sj::vn::VR::JG::JL::[]
theorem lL:bd B2:=⟨qS,zT,nG,qT,PM,zW,zX,trivial⟩
def a3x:CF
 | [.k .q x]=>some (some (Sq BQ x),.k .bool (decide (x.den=1)),[])
 | _=>none
def FI:az:=⟨54,false,a3x⟩
def JP (x:Rat):bk:=⟨nU,nL,nR,nU⟩
def xI (x:Rat):Prop:=Sm BN (d1 x.den)/\decide ((↑(bl (d1 x.den)):Int)=0)=decide (x.den=(1:Nat))
theorem FJ (x:Rat):aw B2 [] (JP x) Tryz.f54 (.k .bool (decide (x.den=1))) [.k .q x]=xI x:=by kernel_rfl
theorem FK (x:Rat) (hg:Sq BQ x):xI x:=by unfold xI;exact⟨(afz hg.den).le (by unfold BQ BN;omega),FZ.2 (ZK.trans FH)⟩
theorem FL:ah (cfg []) FI:=fnq lL bp Tryz.func54 λargs g r hn hc hg hf=>by
 replace hc:a3x args=some (g,r,hn):=hc;unfold a3x at hc;split at hc
 ·cases hc;exact⟨rfl,by kernel_rfl,_,(FJ ..).mpr (FK _ hg)⟩
 ·cases hc
def a4v:CF
 | [.k .nat a,.k .nat b]=>some (some (Sm BN a/\Sm BN b/\b≠0),.k .nat (a/b:Nat),[])
 | _=>none
def Nh:az:=⟨58,false,a4v⟩
def P3 (a b:Nat):bk:=⟨nU,nL,nR,nU⟩
def B3 (a b:Nat):Prop:=Sm BN b/\bif decide ((↑(bl b):Int)=(1:Int)) then a=a/b else (Sm BN a/\Sm BN b)/\a/b=a/b
theorem JQ (a b:Nat):aw B2 [] (P3 a b) Tryz.f58 (.k .nat (a/b:Nat)) [.k .nat a,.k .nat b]=B3 a b:=by kernel_rfl
theorem JR (a b:Nat) (hg:Sm BN a/\Sm BN b/\b≠0):B3 a b:=by unfold B3;obtain⟨h1,h2,h3⟩:=hg;exact⟨h2,aH (λh=>by rw[B1.1 h,Nat.div_one]) λ_=>⟨⟨h1,h2⟩,rfl⟩⟩
theorem JS:ah (cfg []) Nh:=fnq lL bp Tryz.func58 λargs g r hn hc hg hf=>by
 replace hc:a4v args=some (g,r,hn):=hc;unfold a4v at hc;split at hc
 ·cases hc;exact⟨rfl,by kernel_rfl,_,(JQ ..).mpr (JR _ _ hg)⟩
 ·cases hc
def a3y:CF
 | [.k .z n,.k .nat d]=>some (some (Sm BZ n.natAbs/\Sm BZ d),.k .z (n*(d:Int):Int),[])
 | _=>none
def FM:az:=⟨59,false,a3y⟩
def JT (n:Int) (d:Nat):bk:=⟨λkey_=>match key_ with | 1=>3 | _=>0,nL,nR,nU⟩
def xJ (n:Int) (d:Nat):Prop:=Sm BN d/\(Sm BZ n.natAbs/\Sm BZ (bW false d).natAbs)/\n*bW false d=n*(d:Int)
theorem FN (n:Int) (d:Nat):aw B2 [] (JT n d) Tryz.f59 (.k .z (n*(d:Int):Int)) [.k .z n,.k .nat d]=xJ n d:=by kernel_rfl
theorem FO (n:Int) (d:Nat) (hg:Sm BZ n.natAbs/\Sm BZ d):xJ n d:=by unfold xJ;exact⟨hg.2.le (by unfold BZ BN;omega),hg,rfl⟩
theorem FP:ah (cfg []) FM:=fnq lL bp Tryz.func59 λargs g r hn hc hg hf=>by
 replace hc:a3y args=some (g,r,hn):=hc;unfold a3y at hc;split at hc
 ·cases hc;exact⟨rfl,by kernel_rfl,_,(FN ..).mpr (FO _ _ hg)⟩
 ·cases hc
def B4:CF
 | [.k .z n,.k .nat d]=>some (some (Sm BN d/\d≠0/\n.natAbs.Coprime d),.k .q (mkRat n d),[])
 | _=>none
def Ni:az:=⟨60,false,B4⟩
def P4 (n:Int) (d:Nat):bk:=⟨nU,nL,nR,nU⟩
def B5 (n:Int) (d:Nat):Prop:=Sm BN d/\bif decide ((↑(bl d):Int)=(1:Int)) then ((0:Nat)=(0:Nat)\/(0:Nat)≠(1:Nat)/\n.natAbs.Coprime (0:Nat))/\j6 n (0:Nat)=mkRat n d else (d
 = (0:Nat)\/d≠(1:Nat)/\n.natAbs.Coprime d)/\j6 n d=mkRat n d
theorem JU (n:Int) (d:Nat):aw B2 [] (P4 n d) Tryz.f60 (.k .q (mkRat n d)) [.k .z n,.k .nat d]=B5 n d:=by kernel_rfl
theorem JV (n:Int) (d:Nat) (hg:Sm BN d/\d≠0/\n.natAbs.Coprime d):B5 n d:=by unfold B5;obtain⟨h1,h2,h3⟩:=hg;exact⟨h1,aH (λh=>⟨.inl rfl,by rw[fN,B1.1 h,GP]⟩) λh=>⟨.inr ⟨λe=>h (B1.2 e),h3⟩,adb h2⟩⟩
theorem JW:ah (cfg []) Ni:=fnq lL bp Tryz.func60 λargs g r hn hc hg hf=>by
 replace hc:B4 args=some (g,r,hn):=hc;unfold B4 at hc;split at hc
 ·cases hc;exact⟨rfl,by kernel_rfl,_,(JU ..).mpr (JV _ _ hg)⟩
 ·cases hc
def a6h:CF
 | [.k (.int .i64) n]=>some (some (ax n),.k .q ((n:Int):Rat),[])
 | _=>none
def aa5:az:=⟨15,false,a6h⟩
def ZN (n:Int):bk:=⟨nU,nL,nR,nU⟩
def V0 (n:Int):Prop:=((-9223372036854775808:Int)<=n/\n<=(9223372036854775807:Int))/\((0:Nat)=(0:Nat)\/(0:Nat)≠(1:Nat)/\n.natAbs.Coprime (0:Nat))/\j6 n (0:Nat) =
 (↑n:Rat)
theorem V2 (n:Int):aw B2 [] (ZN n) Tryz.f15 (.k .q ((n:Int):Rat)) [.k (.int .i64) n]=V0 n:=by kernel_rfl
theorem V4 (n:Int) (hg:ax n):V0 n:=by unfold V0;exact⟨hg,.inl rfl,fN n⟩
theorem V5:ah (cfg []) aa5:=fnq lL bp Tryz.func15 λargs g r hn hc hg hf=>by
 replace hc:a6h args=some (g,r,hn):=hc;unfold a6h at hc;split at hc
 ·cases hc;exact⟨rfl,by kernel_rfl,_,(V2 ..).mpr (V4 _ hg)⟩
 ·cases hc
def JX:CF
 | [.k .q x]=>some (none,.k .z x.num,[])
 | _=>none
def V6:az:=⟨100,false,JX⟩
def V7 (x:Rat):bk:=⟨nU,nL,nR,nU⟩
def V8 (x:Rat):Prop:=x.num=x.num
theorem P5 (x:Rat):aw B2 [] (V7 x) Tryz.f100 (.k .z x.num) [.k .q x]=V8 x:=by kernel_rfl
theorem P6 (x:Rat) (hf:cJ [.k .q x]):V8 x:=by rfl
theorem P7:ah (cfg []) V6:=fnq lL bp Tryz.func100 λargs g r hn hc hg hf=>by
 replace hc:JX args=some (g,r,hn):=hc;unfold JX at hc;split at hc
 ·cases hc;exact⟨rfl,by kernel_rfl,_,(P5 ..).mpr (P6 _ hf)⟩
 ·cases hc
def B6:CF
 | [.k .q x]=>some (some (Sq BQ x),.k (.int .i64) (x.num.sign:Int),[])
 | _=>none
def Nj:az:=⟨66,false,B6⟩
def P8 (x:Rat):bk:=⟨nU,nL,nR,nU⟩
def Nk (x:Rat):Prop:=Sm BN x.num.natAbs/\x.num.sign=x.num.sign
theorem JY (x:Rat):aw B2 [] (P8 x) Tryz.f66 (.k (.int .i64) (x.num.sign:Int)) [.k .q x]=Nk x:=by kernel_rfl
theorem JZ (x:Rat) (hg:Sq BQ x):Nk x:=by exact⟨hg.num.le (by unfold BQ BN;omega),rfl⟩
theorem J0:ah (cfg []) Nj:=fnq lL bp Tryz.func66 λargs g r hn hc hg hf=>by
 replace hc:B6 args=some (g,r,hn):=hc;unfold B6 at hc;split at hc
 ·cases hc;exact⟨rfl,by kernel_rfl,_,(JY ..).mpr (JZ _ hg)⟩
 ·cases hc
def J1:CF
 | [.k .q x]=>some (some (Sq BQ x),.k .q (-x:Rat),[])
 | _=>none
def V9:az:=⟨167,false,J1⟩
def Wa (x:Rat):bk:=⟨λkey_=>match key_ with | 1=>5 | _=>0,nL,nR,nU⟩
def J2 (x:Rat):Prop:=Sm BN x.num.natAbs/\(d1 x.den=(0:Nat)\/d1 x.den≠(1:Nat)/\(-x.num).natAbs.Coprime (d1 x.den))/\j6 (-x.num) (d1 x.den) = -x
theorem P9 (x:Rat):aw B2 [] (Wa x) Tryz.f167 (.k .q (-x:Rat)) [.k .q x]=J2 x:=by kernel_rfl
theorem Qb (x:Rat) (hg:Sq BQ x):J2 x:=by
 unfold J2;refine⟨hg.num.le (by unfold BQ BN;omega),?_,?_⟩
 ·by_cases e:x.den=1
  ·exact .inl (FH.2 e)
  ·refine .inr ?_;unfold d1;rw[dw e,Int.natAbs_neg];exact⟨e,x.reduced⟩
 ·exact ZL (-x)
theorem Qc:ah (cfg []) V9:=fnq lL bp Tryz.func167 λargs g r hn hc hg hf=>by
 replace hc:J1 args=some (g,r,hn):=hc;unfold J1 at hc;split at hc
 ·cases hc;exact⟨rfl,by kernel_rfl,_,(P9 ..).mpr (Qb _ hg)⟩
 ·cases hc
noncomputable def ZO:List az:=FI::Nh::FM::Ni::Nj::V9::Nf::Ju::sj::JA::vn::VP::JG::VV::JL::VY::[]
theorem B7:bd ZO:=⟨FL,JS,FP,JW,J0,Qc,xG,zR,nG,zV,qT,PJ,zW,PT,zX,PZ,trivial⟩
def J3:CF
 | [.k .q x]=>some (some (Sq BQ x),.k .nat x.den,[])
 | _=>none
def J4:az:=⟨57,false,J3⟩
def Wb (x:Rat):bk:=⟨nU,nL,nR,nU⟩
def J5 (x:Rat):Prop:=Sq BQ x/\bif decide (x.den=(1:Nat)) then ((0:Int)<=(1:Int)/\(1:Int)<(18446744073709551616:Int))/\Int.toNat (1:Int)=x.den else d1 x.den=x.den
theorem Qd (x:Rat):aw ZO [] (Wb x) Tryz.f57 (.k .nat x.den) [.k .q x]=J5 x:=by kernel_rfl
theorem Qe (x:Rat) (hg:Sq BQ x):J5 x:=by unfold J5;refine⟨hg,aH (λh=>⟨by omega,h.symm⟩) λh=>?_⟩;unfold d1;exact dw h
theorem z6:ah (cfg []) J4:=fnq B7 bp Tryz.func57 λargs g r hn hc hg hf=>by
 replace hc:J3 args=some (g,r,hn):=hc;unfold J3 at hc;split at hc
 ·cases hc;exact⟨rfl,by kernel_rfl,_,(Qd ..).mpr (Qe _ hg)⟩
 ·cases hc
def B8:CF
 | [.k .z n,.k .nat b]=>some (some (Sm BZ n.natAbs/\Sm BZ b/\b≠0/\b∣n.natAbs),.k .z (n/(b:Int):Int),[])
 | _=>none
def Nl:az:=⟨61,false,B8⟩
def Qf (n:Int) (b:Nat):bk:=⟨λkey_=>match key_ with | 1=>6 | _=>0,nL,nR,nU⟩
def B9 (n:Int) (b:Nat):Prop:=Sm BN n.natAbs/\(Sm BN n.natAbs/\Sm BN b/\b≠0)/\Sm BN (n.natAbs/b)/\bW (decide (n.sign<0)) (n.natAbs/b)=n/(b:Int)
theorem J6 (n:Int) (b:Nat):aw ZO [] (Qf n b) Tryz.f61 (.k .z (n/(b:Int):Int)) [.k .z n,.k .nat b]=B9 n b:=by kernel_rfl
theorem J7 (n:Int) (b:Nat) (hg:Sm BZ n.natAbs/\Sm BZ b/\b≠0/\b∣n.natAbs):B9 n b:=by
 unfold B9;obtain⟨h1,h2,h3,h4⟩:=hg;have l:BZ<=BN:=by unfold BZ BN;omega
 refine⟨h1.le l,⟨h1.le l,h2.le l,h3⟩,(h1.div _).le l,?_⟩;rw[FZ.2 (show n.sign<0↔n<0 from CS)];exact My (tU h3) h4
theorem J8:ah (cfg []) Nl:=fnq B7 bp Tryz.func61 λargs g r hn hc hg hf=>by
 replace hc:B8 args=some (g,r,hn):=hc;unfold B8 at hc;split at hc
 ·cases hc;exact⟨rfl,by kernel_rfl,_,(J6 ..).mpr (J7 _ _ hg)⟩
 ·cases hc
noncomputable def LF3:List az:=J4::Nl::ZO
theorem Nn:bd LF3:=⟨z6,J8,B7⟩
def J9:CF
 | [.k .z n,.k .nat d]=>some (some (Sm BZ n.natAbs/\Sm BZ d/\d≠0),.k .q (mkRat n d),[])
 | _=>none
def Wc:az:=⟨140,false,J9⟩
def Wd (n:Int) (d:Nat):bk:=⟨λkey_=>match key_ with | 1=>5 | 2=>5 | _=>0,nL,nR,nU⟩
def We (n:Int) (d:Nat):Prop:=
 let t1:=bW false d;
 Sm BN d/\(Sm BN n.natAbs/\Sm BN t1.natAbs)/\(Sm BZ n.natAbs/\Sm BZ (n.natAbs.gcd t1.natAbs)/\n.natAbs.gcd t1.natAbs≠(0:Nat)/\n.natAbs.gcd t1.natAbs∣n.natAbs)
 /\ (Sm BN d/\Sm BN (n.natAbs.gcd t1.natAbs)/\n.natAbs.gcd t1.natAbs≠0)/\(Sm BN (d/n.natAbs.gcd t1.natAbs)/\d/n.natAbs.gcd t1.natAbs≠(0:Nat)/\(n /
 (↑(n.natAbs.gcd t1.natAbs):Int)).natAbs.Coprime (d/n.natAbs.gcd t1.natAbs))/\mkRat (n/(↑(n.natAbs.gcd t1.natAbs):Int)) (d/n.natAbs.gcd t1.natAbs)=mkRat n d
theorem Qg (n:Int) (d:Nat):aw LF3 [] (Wd n d) Tryz.f140 (.k .q (mkRat n d)) [.k .z n,.k .nat d]=We n d:=by kernel_rfl
theorem Qh (n:Int) (d:Nat) (hg:Sm BZ n.natAbs/\Sm BZ d/\d≠0):We n d:=by
 obtain⟨h1,h2,h3⟩:=hg;have l:BZ<=BN:=by unfold BZ BN;omega
 have gp:n.natAbs.gcd d≠0:=CM (ym _ (tU h3));obtain⟨k1,k2⟩:=qp n (tU h3);have sd:=h2.div (n.natAbs.gcd d);refine(show Sm BN d/\(Sm BN n.natAbs/\Sm BN d)/\(Sm BZ n.natAbs/\Sm BZ (n.natAbs.gcd d)/\n.natAbs.gcd d≠0/\n.natAbs.gcd d∣n.natAbs)/\(Sm BN d/\Sm BN (n.natAbs.gcd d)/\n.natAbs.gcd d≠0)/\(Sm BN (d/n.natAbs.gcd d)/\d/n.natAbs.gcd d≠0/\(n/((n.natAbs.gcd d:Nat):Int)).natAbs.Coprime (d/n.natAbs.gcd d))/\mkRat (n/((n.natAbs.gcd d:Nat):Int)) (d/n.natAbs.gcd d)=mkRat n d from ?_);refine⟨h2.le l,⟨h1.le l,h2.le l⟩,⟨h1,zZ h2 h3,gp,yx _ _⟩,⟨h2.le l,(zZ h2 h3).le l,gp⟩,⟨sd.le l,?_,?_⟩,?_⟩
 ·rw[k2];exact(mkRat n d).den_nz
 ·rw[k1,k2];exact(mkRat n d).reduced
 ·rw[k1,k2];exact yo _
theorem Qi:ah (cfg []) Wc:=fnq Nn bp Tryz.func140 λargs g r hn hc hg hf=>by
 replace hc:J9 args=some (g,r,hn):=hc;unfold J9 at hc;split at hc
 ·cases hc;exact⟨rfl,by kernel_rfl,_,(Qg ..).mpr (Qh _ _ hg)⟩
 ·cases hc
noncomputable def Qj:List az:=Wc::LF3
theorem sn:bd Qj:=⟨Qi,Nn⟩
def a4w:CF
 | [.k .z n,.k .z d]=>some (some (Sm BZ n.natAbs/\Sm BZ d.natAbs/\d≠0),T2 (.k .q ((n:Rat)/(d:Rat))) (.k .bool true),[])
 | _=>none
def No:az:=⟨95,false,a4w⟩
def Qk (n d:Int):bk:=⟨λkey_=>match key_ with | 5=>3 | _=>0,nL,nR,nU⟩
def Ca (n d:Int):Prop:=Sm BN d.natAbs/\bif decide (d.sign=0) then ((0:Nat)=(0:Nat)\/(0:Nat)≠(1:Nat)/\(Int.natAbs (0:Int)).Coprime (0:Nat))/\j6 (0:Int) (0:Nat)
 = (↑n:Rat)/(↑d:Rat)/\false=true else Sm BN d.natAbs/\bif decide (d.sign<0) then Sm BN n.natAbs/\(Sm BZ (-n).natAbs/\Sm BZ d.natAbs/\d.natAbs≠(0 :
 Nat))/\mkRat (-n) d.natAbs=(↑n:Rat)/(↑d:Rat)/\true=true else (Sm BZ n.natAbs/\Sm BZ d.natAbs/\d.natAbs≠0)/\mkRat n d.natAbs=(↑n:Rat)/(↑d :
 Rat)/\true=true
theorem Ka (n d:Int):aw Qj [] (Qk n d) Tryz.f95 (T2 (.k .q ((n:Rat)/(d:Rat))) (.k .bool true)) [.k .z n,.k .z d]=Ca n d:=by kernel_rfl
theorem Kb (n d:Int) (hg:Sm BZ n.natAbs/\Sm BZ d.natAbs/\d≠0):Ca n d:=by
 obtain⟨h1,h2,h3⟩:=hg;have l:BZ<=BN:=by unfold BZ BN;omega
 unfold Ca;exact⟨h2.le l,aH (λh=>absurd (Cn.1 h) h3) λ_=>⟨h2.le l,aH (λh=>⟨h1.le l,⟨h1.S8,h2,by omega⟩,Ng n (CS.1 h),rfl⟩) λh=>⟨⟨h1,h2,by omega⟩,mk_pos n (λe=>h (CS.2 e)),rfl⟩⟩⟩
theorem Kc:ah (cfg []) No:=fnq sn bp Tryz.func95 λargs g r hn hc hg hf=>by
 replace hc:a4w args=some (g,r,hn):=hc;unfold a4w at hc;split at hc
 ·cases hc;exact⟨rfl,by kernel_rfl,_,(Ka ..).mpr (Kb _ _ hg)⟩
 ·cases hc
def a5j:CF
 | [.k .q x,.k .q y]=>some (some (Sq BQ x/\Sq BQ y),.k (.int .i64) (fS x y:Int),[])
 | _=>none
def Ke:az:=⟨21,false,a5j⟩
def Wf (x y:Rat):bk:=⟨λkey_=>match key_ with | 1=>10 | 3=>9 | _=>0,nL,nR,nU⟩
def so (x y:Rat):Prop:=Sq BQ x/\Sq BQ y/\bif !decide (x.num.sign=y.num.sign) then (Sm BN x.num.natAbs/\Sm BN y.num.natAbs)/\dS x.num y.num=fS x y else Sq BQ y/\(Sm BZ x.num.natAbs
 /\ Sm BZ y.den)/\Sq BQ x/\(Sm BZ y.num.natAbs/\Sm BZ x.den)/\(Sm BN (x.num*(↑y.den:Int)).natAbs/\Sm BN (y.num*(↑x.den:Int)).natAbs)/\dS (x.num*(↑y.den :
 Int)) (y.num*(↑x.den:Int))=fS x y
def Kf (x y:Rat):Prop:=Sq BQ x/\bif decide (x.den=(1:Nat)) then Sq BQ y/\bif decide (y.den=(1:Nat)) then (Sm BN x.num.natAbs/\Sm BN y.num.natAbs)/\dS x.num y.num=fS x y else
 so x y else so x y
theorem Ql (x y:Rat):aw Qj [] (Wf x y) Tryz.f21 (.k (.int .i64) (fS x y:Int)) [.k .q x,.k .q y]=Kf x y:=by kernel_rfl
theorem Qm (x y:Rat) (hg:Sq BQ x/\Sq BQ y):Kf x y:=by
 obtain⟨h1,h2⟩:=hg;have l:BQ<=BN:=by unfold BQ BN;omega
 have l2:BQ<=BZ:=by unfold BQ BZ;omega
 have l3:BQ+BQ<=BN:=by unfold BQ BN;omega
 have hr:so x y:=by
  unfold so;refine⟨h1,h2,dP (λh=>⟨⟨h1.num.le l,h2.num.le l⟩,Ic h⟩) λ_=>⟨h2,⟨h1.num.le l2,h2.den.le l2⟩,h1,⟨h2.num.le l2,h1.den.le l2⟩,⟨?_,?_⟩,ot x y⟩⟩
  ·rw[Af];exact(h1.num.mul h2.den).le l3
  ·rw[Af];exact(h2.num.mul h1.den).le l3
 unfold Kf;exact⟨h1,aH (λe=>⟨h2,aH (λe'=>⟨⟨h1.num.le l,h2.num.le l⟩,Om e e'⟩) λ_=>hr⟩) λ_=>hr⟩
theorem z7:ah (cfg []) Ke:=fnq sn bp Tryz.func21 λargs g r hn hc hg hf=>by
 replace hc:a5j args=some (g,r,hn):=hc;unfold a5j at hc;split at hc
 ·cases hc;exact⟨rfl,by kernel_rfl,_,(Ql ..).mpr (Qm _ _ hg)⟩
 ·cases hc
def Kg:CF
 | [.k .q x,.k .q y]=>some (some (Sq BQ x/\Sq BQ y),.k .q (x+y:Rat),[])
 | _=>none
def xK:az:=⟨14,false,Kg⟩
def Wg (x y:Rat):bk:=⟨λkey_=>match key_ with | 3=>8 | 4=>10 | 5=>10 | 6=>5 | 7=>8 | _=>0,nL,nR,nU⟩
def xL (x y:Rat):Prop:=
 let t1:=bW false y.den;
 let t2:=bW false x.den;
 let t3:=x.den/t2.natAbs.gcd t1.natAbs;
 let t4:=y.den/t2.natAbs.gcd t1.natAbs;
 let t5:=x.num*(t4:Int)+y.num*(t3:Int);
 let t6:=t2.natAbs.gcd t1.natAbs;
 let t7:=bW false t6;
 let t8:=x.den/t2.natAbs.gcd t1.natAbs*(y.den/t5.natAbs.gcd t7.natAbs);
 Sq BQ x/\Sm BN x.den/\Sq BQ y/\Sm BN y.den/\(Sm BN t2.natAbs/\Sm BN t1.natAbs)/\Sq BQ x/\(Sm BN x.den/\Sm BN t6/\t2.natAbs.gcd t1.natAbs≠0)/\Sq BQ y /\
 (Sm BN y.den/\Sm BN t6/\t2.natAbs.gcd t1.natAbs≠0)/\(Sm BZ x.num.natAbs/\Sm BZ t4)/\(Sm BZ y.num.natAbs/\Sm BZ t3)/\(Sm BZ (x.num*(t4:Int)).natAbs /\
 Sm BZ (y.num*(t3:Int)).natAbs)/\Sm BN t6/\(Sm BN t5.natAbs/\Sm BN t7.natAbs)/\(Sm BZ t5.natAbs/\Sm BZ (t5.natAbs.gcd t7.natAbs)/\t5.natAbs.gcd t7.natAbs≠(0 :
 Nat)/\t5.natAbs.gcd t7.natAbs∣t5.natAbs)/\Sq BQ y/\(Sm BN y.den/\Sm BN (t5.natAbs.gcd t7.natAbs)/\t5.natAbs.gcd t7.natAbs≠0)/\(Sm BN t3/\Sm BN (y.den /
 t5.natAbs.gcd t7.natAbs))/\(Sm BN t8/\x.den/t2.natAbs.gcd t1.natAbs*(y.den/t5.natAbs.gcd t7.natAbs)≠(0:Nat)/\(t5/(↑(t5.natAbs.gcd t7.natAbs) :
 Int)).natAbs.Coprime t8)/\mkRat (t5/(↑(t5.natAbs.gcd t7.natAbs):Int)) t8=x+y
def Kh (x y:Rat):Prop:=Sq BQ x/\bif decide (x.den=(1:Nat)) then Sq BQ y/\bif decide (y.den=(1:Nat)) then (Sm BZ x.num.natAbs/\Sm BZ y.num.natAbs)/\((0:Nat)=(0:Nat)\/(0:Nat)
 ≠ (1:Nat)/\(x.num+y.num).natAbs.Coprime (0:Nat))/\j6 (x.num+y.num) (0:Nat)=x+y else xL x y else xL x y
theorem Qn (x y:Rat):aw Qj [] (Wg x y) Tryz.f14 (.k .q (x+y:Rat)) [.k .q x,.k .q y]=Kh x y:=by kernel_rfl
theorem Qo (x y:Rat) (hg:Sq BQ x/\Sq BQ y):Kh x y:=by
 obtain⟨h1,h2⟩:=hg;have hr:xL x y:=P0 h1 h2 rfl rfl rfl rfl rfl;have l:BQ<=BZ:=by unfold BQ BZ;omega
 unfold Kh;refine⟨h1,aH (λe=>⟨h2,aH (λe'=>⟨⟨h1.num.le l,h2.num.le l⟩,.inl rfl,?_⟩) λ_=>hr⟩) λ_=>hr⟩;obtain⟨k1,k2⟩:=Ia e e';rw[fN,<-k1];have:=yo (x+y);rw[k2,GP] at this;exact this
theorem pI:ah (cfg []) xK:=fnq sn bp Tryz.func14 λargs g r hn hc hg hf=>by
 replace hc:Kg args=some (g,r,hn):=hc;unfold Kg at hc;split at hc
 ·cases hc;exact⟨rfl,by kernel_rfl,_,(Qn ..).mpr (Qo _ _ hg)⟩
 ·cases hc
def Ki:CF
 | [.k .q x,.k .q y]=>some (some (Sq BQ x/\Sq BQ y),.k .q (x*y:Rat),[])
 | _=>none
def xM:az:=⟨19,false,Ki⟩
def Wh (x y:Rat):bk:=⟨λkey_=>match key_ with | 3=>7 | 4=>7 | 5=>17 | _=>0,nL,nR,nU⟩
def xN (x y:Rat):Prop:=
 let t1:=y.den/x.num.natAbs.gcd (bW false y.den).natAbs;
 let t2:=bW false x.den;
 let t3:=x.den/y.num.natAbs.gcd t2.natAbs*t1;
 let t4:=y.num.natAbs.gcd t2.natAbs;
 let t5:=x.num.natAbs.gcd (bW false y.den).natAbs;
 Sq BQ y/\Sm BN y.den/\(Sm BN x.num.natAbs/\Sm BN (bW false y.den).natAbs)/\Sq BQ x/\Sm BN x.den/\(Sm BN y.num.natAbs/\Sm BN t2.natAbs)/\(Sm BZ x.num.natAbs/\Sm
 BZ t5/\x.num.natAbs.gcd (bW false y.den).natAbs≠(0:Nat)/\x.num.natAbs.gcd (bW false y.den).natAbs∣x.num.natAbs)/\(Sm BZ y.num.natAbs/\Sm BZ t4 /\
 y.num.natAbs.gcd t2.natAbs≠(0:Nat)/\y.num.natAbs.gcd t2.natAbs∣y.num.natAbs)/\(Sm BZ (x.num/(t5:Int)).natAbs/\Sm BZ (y.num/(t4:Int)).natAbs)/\Sq BQ x
 /\ (Sm BN x.den/\Sm BN t4/\y.num.natAbs.gcd t2.natAbs≠0)/\Sq BQ y/\(Sm BN y.den/\Sm BN t5/\x.num.natAbs.gcd (bW false y.den).natAbs≠0)/\(Sm BN
 (x.den/y.num.natAbs.gcd t2.natAbs)/\Sm BN t1)/\(Sm BN t3/\x.den/y.num.natAbs.gcd t2.natAbs*t1≠(0:Nat)/\(x.num/(t5:Int)*(y.num/(↑t4 :
 Int))).natAbs.Coprime t3)/\mkRat (x.num/(t5:Int)*(y.num/(t4:Int))) t3=x*y
def Kj (x y:Rat):Prop:=Sq BQ x/\bif decide (x.den=(1:Nat)) then Sq BQ y/\bif decide (y.den=(1:Nat)) then (Sm BZ x.num.natAbs/\Sm BZ y.num.natAbs)/\((0:Nat)=(0:Nat)\/(0:Nat)
 ≠ (1:Nat)/\(x.num*y.num).natAbs.Coprime (0:Nat))/\j6 (x.num*y.num) (0:Nat)=x*y else xN x y else xN x y
theorem Qp (x y:Rat):aw Qj [] (Wh x y) Tryz.f19 (.k .q (x*y:Rat)) [.k .q x,.k .q y]=Kj x y:=by kernel_rfl
theorem Qq (x y:Rat) (hg:Sq BQ x/\Sq BQ y):Kj x y:=by
 obtain⟨h1,h2⟩:=hg;have hr:xN x y:=P2 h1 h2 rfl rfl;have l:BQ<=BZ:=by unfold BQ BZ;omega
 unfold Kj;refine⟨h1,aH (λe=>⟨h2,aH (λe'=>⟨⟨h1.num.le l,h2.num.le l⟩,.inl rfl,?_⟩) λ_=>hr⟩) λ_=>hr⟩;obtain⟨k1,k2⟩:=Ib e e';rw[fN,<-k1];have:=yo (x*y);rw[k2,GP] at this;exact this
theorem pJ:ah (cfg []) xM:=fnq sn bp Tryz.func19 λargs g r hn hc hg hf=>by
 replace hc:Ki args=some (g,r,hn):=hc;unfold Ki at hc;split at hc
 ·cases hc;exact⟨rfl,by kernel_rfl,_,(Qp ..).mpr (Qq _ _ hg)⟩
 ·cases hc
noncomputable def LF5:List az:=xK::xM::Qj
theorem Np:bd LF5:=⟨pI,pJ,sn⟩
def Kk:CF
 | [.k .q x,.k .q y]=>some (some (Sq BQ x/\Sq BQ y),.k .q (x-y:Rat),[])
 | _=>none
def Cb:az:=⟨124,false,Kk⟩
def Wi (x y:Rat):bk:=⟨λkey_=>match key_ with | 1=>3 | _=>0,nL,nR,nU⟩
def Wj (x y:Rat):Prop:=Sq BQ y/\(Sq BQ x/\Sq BQ (-y))/\x + -y=x-y
theorem Qr (x y:Rat):aw LF5 [] (Wi x y) Tryz.f124 (.k .q (x-y:Rat)) [.k .q x,.k .q y]=Wj x y:=by kernel_rfl
theorem Qs (x y:Rat) (hg:Sq BQ x/\Sq BQ y):Wj x y:=by exact⟨hg.2,⟨hg.1,hg.2.neg⟩,(Rat.sub_eq_add_neg x y).symm⟩
theorem tA:ah (cfg []) Cb:=fnq Np bp Tryz.func124 λargs g r hn hc hg hf=>by
 replace hc:Kk args=some (g,r,hn):=hc;unfold Kk at hc;split at hc
 ·cases hc;exact⟨rfl,by kernel_rfl,_,(Qr ..).mpr (Qs _ _ hg)⟩
 ·cases hc
def Kl:CF
 | [.k .q x,.k .q y]=>some (some (Sq BQ x/\Sq BQ y),T2 (.k .q (x/y:Rat)) (.k .bool (!decide ((y:Rat)=0))),[])
 | _=>none
def Wk:az:=⟨125,false,Kl⟩
def Wl (x y:Rat):bk:=⟨λkey_=>match key_ with | 3=>11 | _=>0,nL,nR,nU⟩
def Km (x y:Rat):Prop:=
 let t1:=bW (decide (y.num.sign<0)) y.den;
 Sq BQ y/\bif decide (y.num.sign=0) then ((0:Nat)=(0:Nat)\/(0:Nat)≠(1:Nat)/\(Int.natAbs (0:Int)).Coprime (0:Nat))/\j6 (0:Int) (0:Nat) =
 x/y/\false = !decide (y=0) else Sq BQ y/\Sq BQ y/\Sm BN y.den/\(Sm BN y.num.natAbs/\y.num.natAbs≠(0:Nat)/\t1.natAbs.Coprime y.num.natAbs)/\(Sq BQ x
 /\ Sq BQ (mkRat t1 y.num.natAbs))/\x*mkRat t1 y.num.natAbs=x/y/\true = !decide (y=0)
theorem Qv (x y:Rat):aw LF5 [] (Wl x y) Tryz.f125 (T2 (.k .q (x/y:Rat)) (.k .bool (!decide ((y:Rat)=0)))) [.k .q x,.k .q y]=Km x y:=by kernel_rfl
theorem Qw (x y:Rat) (hg:Sq BQ x/\Sq BQ y):Km x y:=by
 obtain⟨h1,h2⟩:=hg;have l:BQ<=BN:=by unfold BQ BN;omega
 unfold Km;intro t1;refine⟨h2,aH (λh=>⟨.inl rfl,?_,?_⟩) λh=>?_⟩
 ·have e:y=0:=CY.1 (Cn.1 h);rw[e,Gy,Rat.inv_zero,GD];exact fN 0
 ·have e:y=0:=CY.1 (Cn.1 h);rw[tC e];rfl
 ·have e:y≠0:=λe=>h (by rw[e];rfl);obtain⟨k1,k2⟩:=ZM e;have hn:y.num≠0:=λe'=>e (CY.1 e');refine⟨h2,h2,h2.den.le l,⟨h2.num.le l,by omega,k2⟩,⟨h1,?_⟩,?_,?_⟩
  ·rw[show mkRat t1 y.num.natAbs=y⁻¹ from k1];exact h2.inv e
  ·rw[show mkRat t1 y.num.natAbs=y⁻¹ from k1,<-Gy]
  ·rw[nS e];rfl
theorem Qx:ah (cfg []) Wk:=fnq Np bp Tryz.func125 λargs g r hn hc hg hf=>by
 replace hc:Kl args=some (g,r,hn):=hc;unfold Kl at hc;split at hc
 ·cases hc;exact⟨rfl,by kernel_rfl,_,(Qv ..).mpr (Qw _ _ hg)⟩
 ·cases hc
theorem Wm {s:Bool} {g m:Nat} (hg:0<g) (h:g∣m):bW s (m/g)=bW s m/(g:Int):=by
 obtain⟨k,rfl⟩:=h;rw[yq _ hg];have fc:(g:Int)≠0:=by omega
 cases s
 ·show((k:Nat):Int)=((g*k:Nat):Int)/(g:Int);rw[xX,Ar _ fc]
 ·show -((k:Nat):Int) = -((g*k:Nat):Int)/(g:Int);rw[xX,<-Int.mul_neg,Ar _ fc]
theorem z8 (n:Int) {d:Int} (h:d≠0):mkRat (bW (!(decide (n<0) == decide (d<0))) n.natAbs) d.natAbs=(n:Rat)/(d:Rat):=by
 by_cases hd:d<0
 ·rw[<-Ng n hd];congr 1;unfold bW;by_cases hn:n<0<;>simp[hn,hd]<;>omega
 ·rw[<-mk_pos n hd];congr 1;unfold bW;by_cases hn:n<0<;>simp[hn,hd]<;>omega
theorem tB (n:Int) (d:Nat):(n:Rat)/(((d:Nat):Int):Rat)=mkRat n d:=by rw[<-Hh,Hq]
theorem over_self (q:Rat):((q.num:Int):Rat)/(((q.den:Nat):Int):Rat)=q:=by rw[tB,yo]
theorem mQ {a b:Nat}:0<=bG a b↔b<=a:=by unfold bG;(repeat' split)<;>omega
noncomputable def ZP:List az:=aa4::VK::[]
theorem Cc:bd ZP:=⟨VJ,PB,trivial⟩
def frI:CF
 | [.k .bool b,.k .rn n]=>some (none,.k .ri (bW b n),[])
 | _=>none
def crI:az:=⟨84,false,frI⟩
def adh (b:Bool) (n:Nat):bk:=⟨nU,nL,nR,nU⟩
def vrI (b:Bool) (n:Nat):Prop:=bif b then (decide ((0:Int)<(↑(nl n):Int))=true->n≠0)/\bW (decide ((0:Int)<(↑(nl n):Int))) n=bW b n else (false=true->n≠0) /\
 bW false n=bW b n
theorem ZQ (b:Bool) (n:Nat):aw ZP [] (adh b n) Tryz.f84 (.k .ri (bW b n)) [.k .bool b,.k .rn n]=vrI b n:=by kernel_rfl
theorem ZR (b:Bool) (n:Nat) (hf:cJ [.k .bool b,.k .rn n]):vrI b n:=by
 unfold vrI;refine nC (λh=>?_) λh=>?_
 ·subst h;refine⟨λh' e=>?_,?_⟩
  ·have:=(pC n).1 (AB h');omega
  ·rcases gA n with e | e
   ·subst e;cases decide ((0:Int)<((nl 0:Nat):Int))<;>rfl
   ·rw[tC (show(0:Int)<((nl n:Nat):Int) from (pC n).2 e)]
 ·subst h;exact⟨λh=>(by cases h),rfl⟩
theorem Nq:ah (cfg []) crI:=cf Cc bp Tryz.func84 λa _ _ _ hc hg hf=>by change frI a=_ at hc;unfold frI at hc;split at hc<;>cases hc;cases aY (ZQ _ _) (ZR _ _ hf);exact⟨rfl,by kernel_rfl,_,by assumption⟩
def a5k:CF
 | [.k .rn a,.k .rn b]=>some (some (Sm BN a/\Sm BN b),.k .rn (Nat.gcd a b),[])
 | _=>none
def Wn:az:=⟨131,false,a5k⟩
def Wo (a b:Nat):bk:=⟨nU,λkey_=>match key_ with
 | 1=>some (⟨Nat×Nat,λp=>[(0,.k .rn p.1),(1,.k .rn p.2)],λ_=>[],λ_ p=>Sm BN p.1/\Sm BN p.2/\Nat.gcd p.1 p.2=Nat.gcd a b,λp=>p.2⟩) | _=>none,nR,nU⟩
def Kn (a b:Nat):Prop:=∃(x0:Nat×Nat),(a=x0.fst/\b=x0.snd)/\(Sm BN x0.fst/\Sm BN x0.snd/\x0.fst.gcd x0.snd=a.gcd b)/\∀(x:Nat×Nat),Sm BN x.fst/\Sm BN x.snd/\x.fst.gcd
 x.snd=a.gcd b->bif decide ((0:Int)<(↑(nl x.snd):Int)) then (Sm BN x.fst/\Sm BN x.snd/\x.snd≠0)/\∃(x':Nat×Nat),(x.snd=x'.fst/\x.fst%x.snd
 = x'.snd)/\(Sm BN x'.fst/\Sm BN x'.snd/\x'.fst.gcd x'.snd=a.gcd b)/\x'.snd<x.snd else x.fst=a.gcd b
theorem Qy (a b:Nat):aw ZP [] (Wo a b) Tryz.f131 (.k .rn (Nat.gcd a b)) [.k .rn a,.k .rn b]=Kn a b:=by kernel_rfl
theorem Qz (a b:Nat) (hg:Sm BN a/\Sm BN b):Kn a b:=by
 unfold Kn;refine⟨(a,b),⟨rfl,rfl⟩,⟨hg.1,hg.2,rfl⟩,λ⟨p,q⟩ ⟨h1,h2,h3⟩=>?_⟩;dsimp only at h1 h2 h3 ⊢;refine aH (λh=>?_) λh=>?_
 ·have hq:=(pC q).1 h;refine⟨⟨h1,h2,by omega⟩,(q,p%q),⟨rfl,rfl⟩,⟨h2,h1.mod _,?_⟩,pv _ hq⟩;rw[<-h3,CN p q,Hj q p,CN]
 ·have:q=0:=by
   rcases gA q with e | e
   ·exact e
   ·exact absurd ((pC q).2 e) h
  rw[<-h3,this,G5]
theorem QA:ah (cfg []) Wn:=cf Cc bp Tryz.func131 λa _ _ _ hc hg hf=>by change a5k a=_ at hc;unfold a5k at hc;split at hc<;>cases hc;cases aY (Qy _ _) (Qz _ _ hg);exact⟨rfl,by kernel_rfl,_,by assumption⟩
noncomputable def FQ:List az:=crI::Wn::ZP
theorem nH:bd FQ:=⟨Nq,QA,Cc⟩
def a3z:CF
 | [.k (.int .i64) n]=>some (some (ax n),.k .ri n,[])
 | _=>none
def FR:az:=⟨78,false,a3z⟩
def Ko (n:Int):bk:=⟨nU,nL,nR,nU⟩
def xO (n:Int):Prop:=bif decide (n<0) then ((0:Int)<=IntKind.u64.wrap ((0:Int)-IntKind.u64.wrap n)/\IntKind.u64.wrap ((0:Int)-IntKind.u64.wrap n)<(18446744073709551616
 : Int))/\bW true (IntKind.u64.wrap ((0:Int)-IntKind.u64.wrap n)).toNat=n else ((0:Int)<=IntKind.u64.wrap n/\IntKind.u64.wrap n<(18446744073709551616:Int))
 /\ bW false (IntKind.u64.wrap n).toNat=n
theorem FT (n:Int):aw FQ [] (Ko n) Tryz.f78 (.k .ri n) [.k (.int .i64) n]=xO n:=by kernel_rfl
theorem FU (n:Int) (hg:ax n):xO n:=by
 unfold xO;have h1 : -9223372036854775808<=n:=hg.1;have h2:n<=9223372036854775807:=hg.2;refine aH (λh=>?_) λh=>?_
 ·have e:IntKind.u64.wrap ((0:Int)-IntKind.u64.wrap n) = -n:=by simp[IntKind.wrap,IntKind.signed,IntKind.bits];omega
  rw[e];refine⟨⟨by omega,by omega⟩,?_⟩;show -((Int.toNat (-n):Nat):Int)=n;omega
 ·have e:IntKind.u64.wrap n=n:=by simp[IntKind.wrap,IntKind.signed,IntKind.bits];omega
  rw[e];refine⟨⟨by omega,by omega⟩,?_⟩;show((Int.toNat n:Nat):Int)=n;omega
theorem FW:ah (cfg []) FR:=cf nH bp Tryz.func78 λa _ _ _ hc hg hf=>by change a3z a=_ at hc;unfold a3z at hc;split at hc<;>cases hc;cases aY (FT _) (FU _ hg);exact⟨rfl,by kernel_rfl,_,by assumption⟩
noncomputable def LR3:List az:=FR::FQ
theorem Nr:bd LR3:=⟨FW,nH⟩
noncomputable def Ws:List az:=LR3
theorem vp:bd Ws:=Nr
def Cu:CF
 | [.k .ri n,.k .ri d]=>some (some (Sm BN n.natAbs/\Sm BN d.natAbs/\d≠0),.k .rq ((n:Rat)/(d:Rat)),[])
 | _=>none
def Ns:az:=⟨80,false,Cu⟩
def QE (n d:Int):bk:=⟨nU,nL,nR,nU⟩
def Cv (n d:Int):Prop:=
 let t1:=bW (!decide (n<0) == decide (d<0)) (n.natAbs/n.natAbs.gcd d.natAbs);
 (Sm BN n.natAbs/\Sm BN d.natAbs)/\(Sm BN n.natAbs/\Sm BN (n.natAbs.gcd d.natAbs)/\n.natAbs.gcd d.natAbs≠0)/\(Sm BN d.natAbs/\Sm BN (n.natAbs.gcd d.natAbs)
 /\ n.natAbs.gcd d.natAbs≠0)/\(d.natAbs/n.natAbs.gcd d.natAbs≠(0:Nat)/\t1.natAbs.Coprime (d.natAbs/n.natAbs.gcd d.natAbs))/\mkRat t1 (d.natAbs /
 n.natAbs.gcd d.natAbs)=(↑n:Rat)/(↑d:Rat)
theorem Kq (n d:Int):aw Ws [] (QE n d) Tryz.f80 (.k .rq ((n:Rat)/(d:Rat))) [.k .ri n,.k .ri d]=Cv n d:=by kernel_rfl
theorem Kr (n d:Int) (hg:Sm BN n.natAbs/\Sm BN d.natAbs/\d≠0):Cv n d:=by
 obtain⟨h1,h2,h3⟩:=hg;unfold Cv;intro t1;have hd:0<d.natAbs:=by omega
 have gp:0<n.natAbs.gcd d.natAbs:=ym _ hd;have sg:=zZ (a:=n.natAbs) h2 (by omega);have e:=z8 n h3;have e1:t1=bW (!(decide (n<0) == decide (d<0))) n.natAbs/((n.natAbs.gcd d.natAbs:Nat):Int):=Wm gp (yx _ _);obtain⟨k1,k2⟩:=qp (bW (!(decide (n<0) == decide (d<0))) n.natAbs) hd;rw[rE] at k1 k2;rw[e] at k1 k2;rw[e1,k1,k2];exact⟨⟨h1,h2⟩,⟨h1,sg,by omega⟩,⟨h2,sg,by omega⟩,⟨Rat.den_nz _,Rat.reduced _⟩,yo _⟩
theorem Ks:ah (cfg []) Ns:=cf vp bp Tryz.func80 λa _ _ _ hc hg hf=>by change Cu a=_ at hc;unfold Cu at hc;split at hc<;>cases hc;cases aY (Kq _ _) (Kr _ _ hg);exact⟨rfl,by kernel_rfl,_,by assumption⟩
def Wt:CF
 | [.k (.int .i64) n]=>some (some (ax n),.k .rq (n:Rat),[])
 | _=>none
def xQ:az:=⟨27,false,Wt⟩
def ZS (n:Int):bk:=⟨nU,nL,nR,nU⟩
def aa6 (n:Int):Prop:=((-9223372036854775808:Int)<=n/\n<=(9223372036854775807:Int))/\((0:Int)<=(1:Int)/\(1:Int)<(18446744073709551616:Int))/\(Int.toNat (1:Int)≠(0 :
 Nat)/\n.natAbs.Coprime (Int.toNat (1:Int)))/\mkRat n (Int.toNat (1:Int))=(↑n:Rat)
theorem Wu (n:Int):aw Ws [] (ZS n) Tryz.f27 (.k .rq (n:Rat)) [.k (.int .i64) n]=aa6 n:=by kernel_rfl
theorem Wv (n:Int) (hg:ax n):aa6 n:=by exact⟨hg,by omega,⟨by decide,by simp⟩,GP n⟩
theorem mV:ah (cfg []) xQ:=cf vp bp Tryz.func27 λa _ _ _ hc hg hf=>by change Wt a=_ at hc;unfold Wt at hc;split at hc<;>cases hc;cases aY (Wu _) (Wv _ hg);exact⟨rfl,by kernel_rfl,_,by assumption⟩
noncomputable def Ww:List az:=Ns::Ws
theorem vq:bd Ww:=⟨Ks,vp⟩
def a4x:CF
 | [.k (.int .i64) n,.k (.int .i64) d]=>some (some (ax n/\ax d/\d≠0),.k .rq ((n:Rat)/(d:Rat)),[])
 | _=>none
def Nt:az:=⟨87,false,a4x⟩
def QF (n d:Int):bk:=⟨nU,nL,nR,nU⟩
def Nu (n d:Int):Prop:=((-9223372036854775808:Int)<=n/\n<=(9223372036854775807:Int))/\((-9223372036854775808:Int)<=d/\d<=(9223372036854775807:Int))/\(Sm BN n.natAbs/\Sm BN
 d.natAbs/\d≠0)/\(↑n:Rat)/(↑d:Rat)=(↑n:Rat)/(↑d:Rat)
theorem Kt (n d:Int):aw Ww [] (QF n d) Tryz.f87 (.k .rq ((n:Rat)/(d:Rat))) [.k (.int .i64) n,.k (.int .i64) d]=Nu n d:=by kernel_rfl
theorem Ku (n d:Int) (hg:ax n/\ax d/\d≠0):Nu n d:=by obtain⟨⟨a1,a2⟩,⟨b1,b2⟩,h3⟩:=hg;exact⟨⟨a1,a2⟩,⟨b1,b2⟩,⟨(Sm.lit (by omega)).le (by unfold BN;omega),(Sm.lit (by omega)).le (by unfold BN;omega),h3⟩,rfl⟩
theorem xR:ah (cfg []) Nt:=cf vq bp Tryz.func87 λa _ _ _ hc hg hf=>by change a4x a=_ at hc;unfold a4x at hc;split at hc<;>cases hc;cases aY (Kt _ _) (Ku _ _ hg);exact⟨rfl,by kernel_rfl,_,by assumption⟩
end Go.Proofs.YtnciifikfkpanaaGreatDoor.AM
namespace Go.Proofs.YtnciifikfkpanaaGreatDoor
open Go.RowKit
theorem F4 (n:Nat) (hn:bl n<=549755813888) (w:World) :
  Calls Tryz.prog 101 #[.agg #[.int .u64 (lo (n):Nat),.string (hi (n))]] w (cA (bJ n) w):=by
 have HB:Hid (∀W,Calls Tryz.prog 145 #[.agg #[.int .u64 (lo (n):Nat),.string (hi (n))]] W (cA (jQ (gR n)) W)):=aad (λW=>(xn n hn W).mono λ_ _ ⟨v,h1,h2,h3⟩=>⟨v,h1,jQ.Ug (by rw[b9];unfold nb;omega) h2,h3⟩)
 have HF:Hid (∀W u,jQ (gR n) u W->Calls Tryz.prog 144 #[u] W (cA (bJ n) W)):=aad (λW u h=>by have h:=Bt (gR n) u W (by rw[b9];unfold nb;omega) h;rw[wX] at h;exact h)
 clear hn
 generalize lo n=la at *
 generalize hi n=sa at *
 go_enter Tryz.func101,Tryz.ntmps101
 go_wp2_with fail
 have hx:Ext w (w.alloc (.cells #[.int .u64 ((la:Nat):Int),.string sa] 36)):=(Ext.refl w).alloc _
 have HX:=aad hx
 clear hx
 refine(HB.out _).mono ?_
 rintro e w1 ⟨v1,rfl,fj,bU⟩
 have I0:=aad fj
 have im:=aad bU
 clear fj bU
 go_wp2_with fail
 refine(HF.out _ _ I0.out).mono ?_
 rintro e w3 ⟨v3,rfl,WD,eR⟩
 have HV3:=aad WD
 clear WD
 go_wp2
 go_ret
 exact⟨_,rfl,HV3.out,(HX.out.trans im.out).trans eR⟩
end Go.Proofs.YtnciifikfkpanaaGreatDoor
namespace Go.Proofs.YtnciifikfkpanaaGreatDoor.AM
open Go.RowKit
def Al:az:=⟨101,false,on1 .nat N1 λx=>.k .rn (x:Nat)⟩
theorem Cw:ah (cfg []) Al:=nB (enters_of Tryz.func101 (by kernel_rfl) rfl) (λ_=>rfl) λF x u w hg ht hu=>by obtain rfl:=hu.lu;have hg:Sm BN x:=hg;exact xF (F4 x (by unfold Sm BN at hg;omega) w)
theorem F5 (n:Int) {m:Int} (hm:0<m) : -m<n.tmod m/\n.tmod m<m/\n.tmod m%m=n%m:=by
 refine⟨Int.lt_tmod_of_pos n hm,Int.tmod_lt_of_pos n hm,?_⟩;have h:=Int.tmod_add_mul_tdiv n m;conv=>rhs;rw[<-h]
 rw[Int.add_mul_emod_self_left]
theorem nI {a b:Nat}:bG a b=0↔a=b:=by unfold bG;(repeat' split)<;>omega
theorem QM {x y:Rat} (h1:x.num=y.num) (h2:x.den=y.den):x=y:=by rw[<-yo x,<-yo y,h1,h2]
theorem Sq.ratio {k:Nat} {n d:Int} (hn:Sm k n.natAbs) (hd:Sm k d.natAbs) (h0:d≠0):Sq k ((n:Rat)/(d:Rat)):=by rw[<-z8 n h0];exact H9 (by omega) (by rw[rE];exact hn) hd
noncomputable def WE:List az:=VM::Al::sj::JA::vn::crI::V6::J4::No::xQ::Nt::Jx::[]
theorem vr:bd WE:=⟨PC,Cw,nG,zV,qT,Nq,P7,z6,Kc,mV,xR,zU,trivial⟩
def a4y:CF
 | [.k (.int .i64) n,.k (.int .i64) m]=>some (some (ax n/\0<m/\m<=9223372036854775807),.k (.int .i64) (n%m:Int),[])
 | _=>none
def Cy:az:=⟨16,false,a4y⟩
def QN (n m:Int):bk:=⟨nU,nL,nR,nU⟩
def Cz (n m:Int):Prop:=m≠(0:Int)/\bif decide (n.tmod m<0) then ax (n.tmod m+m)/\n.tmod m+m=n%m else n.tmod m=n%m
theorem KA (n m:Int):aw WE [] (QN n m) Tryz.f16 (.k (.int .i64) (n%m:Int)) [.k (.int .i64) n,.k (.int .i64) m]=Cz n m:=by kernel_rfl
theorem KB (n m:Int) (hg:ax n/\0<m/\m<=9223372036854775807):Cz n m:=by
 obtain⟨⟨h1,h2⟩,h3,h4⟩:=hg;obtain⟨a1,a2,a3⟩:=F5 n h3;unfold Cz;refine⟨by omega,aH (λh=>⟨⟨by omega,by omega⟩,?_⟩) λh=>?_⟩
 ·rw[<-a3,<-Int.add_emod_right,Int.emod_eq_of_lt (by omega) (by omega)]
 ·rw[<-a3,Int.emod_eq_of_lt (by omega) (by omega)]
theorem nJ:ah (cfg []) Cy:=cf vr bp Tryz.func16 λa _ _ _ hc hg hf=>by change a4y a=_ at hc;unfold a4y at hc;split at hc<;>cases hc;cases aY (KA _ _) (KB _ _ hg);exact⟨rfl,by kernel_rfl,_,by assumption⟩
def a5n:CF
 | [.k .ri x]=>some (some (Sm BN x.natAbs),.k .z x,[])
 | _=>none
def WG:az:=⟨96,false,a5n⟩
def WH (x:Int):bk:=⟨λkey_=>match key_ with | 1=>5 | _=>0,nL,nR,nU⟩
def WI (x:Int):Prop:=Sm BN x.natAbs/\Sm BN x.natAbs/\bW (decide (x<0)) x.natAbs=x
theorem QO (x:Int):aw WE [] (WH x) Tryz.f96 (.k .z x) [.k .ri x]=WI x:=by kernel_rfl
theorem QP (x:Int) (hg:Sm BN x.natAbs):WI x:=by exact⟨hg,hg,kS x⟩
theorem QQ:ah (cfg []) WG:=cf vr bp Tryz.func96 λa _ _ _ hc hg hf=>by change a5n a=_ at hc;unfold a5n at hc;split at hc<;>cases hc;cases aY (QO _) (QP _ hg);exact⟨rfl,by kernel_rfl,_,by assumption⟩
def a2F:CF
 | [.k .z x]=>some (some (Sm BN x.natAbs),.k .ri x,[])
 | _=>none
def Am:az:=⟨99,false,a2F⟩
def F6 (x:Int):bk:=⟨λkey_=>match key_ with | 1=>4 | _=>0,nL,nR,nU⟩
def An (x:Int):Prop:=Sm BN x.natAbs/\Sm BN x.natAbs/\bW (decide (x.sign<0)) x.natAbs=x
theorem CA (x:Int):aw WE [] (F6 x) Tryz.f99 (.k .ri x) [.k .z x]=An x:=by kernel_rfl
theorem CB (x:Int) (hg:Sm BN x.natAbs):An x:=by refine⟨hg,hg,?_⟩;rw[FZ.2 (show x.sign<0↔x<0 from CS)];exact kS x
theorem CC:ah (cfg []) Am:=cf vr bp Tryz.func99 λa _ _ _ hc hg hf=>by change a2F a=_ at hc;unfold a2F at hc;split at hc<;>cases hc;cases aY (CA _) (CB _ hg);exact⟨rfl,by kernel_rfl,_,by assumption⟩
noncomputable def ZT:List az:=WG::Am::WE
theorem CD:bd ZT:=⟨QQ,CC,vr⟩
def a6i:CF
 | [.k .rq x]=>some (some (Sq BQ x),.k .q x,[])
 | _=>none
def aa7:az:=⟨40,false,a6i⟩
def ZU (x:Rat):bk:=⟨λkey_=>match key_ with | 1=>12 | _=>0,nL,nR,nU⟩
def aa8 (x:Rat):Prop:=Sm BN x.num.natAbs/\Sm BN x.den/\Sm BN x.den/\(Sm BZ x.num.natAbs/\Sm BZ (bW false x.den).natAbs/\bW false x.den≠0)/\(↑x.num:Rat)/(↑(bW false
 x.den):Rat)=x
theorem WJ (x:Rat):aw ZT [] (ZU x) Tryz.f40 (.k .q x) [.k .rq x]=aa8 x:=by kernel_rfl
theorem WK (x:Rat) (hg:Sq BQ x):aa8 x:=by
 have l:BQ<=BN:=by unfold BQ BN;omega
 have l2:BQ<=BZ:=by unfold BQ BZ;omega
 refine⟨hg.num.le l,hg.den.le l,hg.den.le l,⟨hg.num.le l2,hg.den.le l2,?_⟩,over_self x⟩;have:=x.den_pos;show((x.den:Nat):Int)≠0;omega
theorem WL:ah (cfg []) aa7:=cf CD bp Tryz.func40 λa _ _ _ hc hg hf=>by change a6i a=_ at hc;unfold a6i at hc;split at hc<;>cases hc;cases aY (WJ _) (WK _ hg);exact⟨rfl,by kernel_rfl,_,by assumption⟩
def a5o:CF
 | [.k .q x]=>some (some (Sq BQ x),.k .rq x,[])
 | _=>none
def WM:az:=⟨44,false,a5o⟩
def WN (x:Rat):bk:=⟨λkey_=>match key_ with | 1=>4 | _=>0,nL,nR,nU⟩
def WO (x:Rat):Prop:=Sm BN x.num.natAbs/\Sq BQ x/\Sm BN x.den/\Tg x.num x.den/\mkRat x.num x.den=x
theorem QS (x:Rat):aw ZT [] (WN x) Tryz.f44 (.k .rq x) [.k .q x]=WO x:=by kernel_rfl
theorem QT (x:Rat) (hg:Sq BQ x):WO x:=by
 have l:BQ<=BN:=by unfold BQ BN;omega
 exact⟨hg.num.le l,hg,hg.den.le l,⟨x.den_nz,x.reduced⟩,yo x⟩
theorem QU:ah (cfg []) WM:=cf CD bp Tryz.func44 λa _ _ _ hc hg hf=>by change a5o a=_ at hc;unfold a5o at hc;split at hc<;>cases hc;cases aY (QS _) (QT _ hg);exact⟨rfl,by kernel_rfl,_,by assumption⟩
noncomputable def LH3:List az:=WM::ZT
theorem Nv:bd LH3:=⟨QU,CD⟩
def a4z:CF
 | [.k .q x,.k .rq y]=>some (some (Sq BQ x/\Sq BQ y),.k .bool (decide (x=y)),[])
 | _=>none
def CE:az:=⟨104,false,a4z⟩
def QV (x y:Rat):bk:=⟨nU,nL,nR,nU⟩
def CG (x y:Rat):Prop:=Sq BQ x/\bif decide ((↑(nl y.den):Int)=0) then ax (0:Int)/\(Sm BN x.num.natAbs/\Sm BN (↑(0:Int):Rat).num.natAbs)/\bif decide (bG x.num.natAbs
 (↑(0:Int):Rat).num.natAbs=0) then bif decide (x.num<0) == decide ((↑(0:Int):Rat).num<0) then (Sm BN x.den/\Sm BN (↑(0:Int) :
 Rat).den)/\decide (bG x.den (↑(0:Int):Rat).den=0)=decide (x=y) else false=decide (x=y) else false=decide (x=y) else (Sm BN x.num.natAbs/\Sm
 BN y.num.natAbs)/\bif decide (bG x.num.natAbs y.num.natAbs=0) then bif decide (x.num<0) == decide (y.num<0) then (Sm BN x.den/\Sm BN
 y.den)/\decide (bG x.den y.den=0)=decide (x=y) else false=decide (x=y) else false=decide (x=y)
theorem KC (x y:Rat):aw LH3 [] (QV x y) Tryz.f104 (.k .bool (decide (x=y))) [.k .q x,.k .rq y]=CG x y:=by kernel_rfl
theorem KD (x y:Rat) (hg:Sq BQ x/\Sq BQ y):CG x y:=by
 obtain⟨h1,h2⟩:=hg;have l:BQ<=BN:=by unfold BQ BN;omega
 have hn:=(pC y.den).2 y.den_pos;unfold CG;refine⟨h1,aH (λh=>by omega) λ_=>⟨⟨h1.num.le l,h2.num.le l⟩,aH (λh=>nC (λh'=>⟨⟨h1.den.le l,h2.den.le l⟩,FZ.2 ⟨λe=>?_,λe=>?_⟩⟩) λh'=>?_) λh=>?_⟩⟩
 ·have e1:=nI.1 h;have e2:decide (x.num<0)=decide (y.num<0):=by simpa using h'
  refine QM ?_ (nI.1 e);rw[<-kS x.num,<-kS y.num,e1,e2]
 ·rw[e];exact nI.2 rfl
 ·refine(nS λe=>?_).symm;rw[e] at h';simp at h'
 ·refine(nS λe=>h ?_).symm;rw[e];exact nI.2 rfl
theorem xS:ah (cfg []) CE:=cf Nv bp Tryz.func104 λa _ _ _ hc hg hf=>by change a4z a=_ at hc;unfold a4z at hc;split at hc<;>cases hc;cases aY (KC _ _) (KD _ _ hg);exact⟨rfl,by kernel_rfl,_,by assumption⟩
noncomputable def LH4:List az:=CE::LH3
theorem ZV:bd LH4:=⟨xS,Nv⟩
def a6j:CF
 | [.k .q x,.k (.int .i64) n,.k (.int .i64) d]=>some (some (Sq BQ x/\ax n/\ax d/\d≠0),.k .bool (decide (x=(n:Rat)/(d:Rat))),[])
 | _=>none
def aa9:az:=⟨48,false,a6j⟩
def ZW (x:Rat) (n d:Int):bk:=⟨λkey_=>match key_ with | 1=>4 | _=>0,nL,nR,nU⟩
def aba (x:Rat) (n d:Int):Prop:=(ax n/\ax d/\d≠0)/\(Sq BQ x/\Sq BQ ((↑n:Rat)/(↑d:Rat)))/\decide (x=(↑n:Rat)/(↑d:Rat))=decide (x=(↑n:Rat)/(↑d:Rat))
theorem WQ (x:Rat) (n d:Int):aw LH4 [] (ZW x n d) Tryz.f48 (.k .bool (decide (x=(n:Rat)/(d:Rat)))) [.k .q x,.k (.int .i64) n,.k (.int .i64) d]=aba x n d:=by kernel_rfl
theorem WR (x:Rat) (n d:Int) (hg:Sq BQ x/\ax n/\ax d/\d≠0):aba x n d:=by obtain⟨h1,⟨a1,a2⟩,⟨b1,b2⟩,h4⟩:=hg;exact⟨⟨⟨a1,a2⟩,⟨b1,b2⟩,h4⟩,⟨h1,(Sq.ratio (k:=64) (Sm.lit (by omega)) (Sm.lit (by omega)) h4).le (by unfold BQ;omega)⟩,rfl⟩
theorem WS:ah (cfg []) aa9:=cf ZV bp Tryz.func48 λa _ _ _ hc hg hf=>by change a6j a=_ at hc;unfold a6j at hc;split at hc<;>cases hc;cases aY (WQ _ _ _) (WR _ _ _ hg);exact⟨rfl,by kernel_rfl,_,by assumption⟩
theorem QW {w w':World} (h:fm (λ_=>False) w w'):Ext w w':=⟨h.os,h.tape,h.output,h.size,λi hi=>h.block i hi id⟩
theorem qV {ct:az} (h:ah (cfg []) ct) {args:List AV} {g:Option Prop} {r:AV} (hc:ct.c args=some (g,r,[])) (hg:bt g) (hr:r.owns=false) {w:World} {vs:List Value} (ht:cK w) (hv:VL (λ_=>True) w dX args vs) :
  Calls Tryz.prog ct.f vs.toArray w (λe w'=>∃v,e = .returned v/\Ext w w'/\aq (λ_=>True) w' dX r v):=by
 refine Calls.mono (h.ok args g r [] hc hg (λ_=>True) w vs ht hv) λe w' ⟨v, β',h1,h2,h3⟩=>⟨v,h1,QW h2.fr,h3.ak (.aO (Ext.refl w')) (λ_ _ _=>trivial) λid hu=>?_⟩
 exact absurd hu (by rw[dp id hr];simp)
theorem aq.abb {ok:Nat->Prop} {w:World} {β:Bm} {x:Rat} {v:Value} (h:∃A c B d,v = .agg #[.bool (decide (x.num<0)),.slice A (nl x.num.natAbs) c,.slice B (nl x.den) d]/\bJ x.num.natAbs (.slice A (nl x.num.natAbs) c) w/\bJ x.den (.slice B (nl x.den) d) w):aq ok w β (.k .rq x) v:=by obtain⟨A,c,B,d,rfl,h1,h2⟩:=h;exact⟨_,⟨_,_,rfl,h1,h2⟩,rfl⟩
theorem aq.rqv {ok:Nat->Prop} {w:World} {β:Bm} {x:Rat} {v:Value} (h:aq ok w β (.k .rq x) v):∃A c B d,v = .agg #[.bool (decide (x.num<0)),.slice A (nl x.num.natAbs) c,.slice B (nl x.den) d]/\bJ x.num.natAbs (.slice A (nl x.num.natAbs) c) w/\bJ x.den (.slice B (nl x.den) d) w:=by obtain⟨c,⟨u,v',rfl,h1,h2⟩,hv⟩:=h;obtain⟨A,c,e1⟩:=h1.form;obtain⟨B,d,e2⟩:=h2.form;subst e1;subst e2;exact⟨A,c,B,d,hv,h1,h2⟩
def dd (j:Int):Int:=if j=3 then 2 else if j=4 then 3 else if j=5 then 4 else 1
theorem Nw (j:Int):1<=dd j/\dd j<=4:=by unfold dd;(repeat' split)<;>omega
def hR (n:Int):Rat:=((n%41-20:Int):Rat)/((dd (n.tdiv 41%6):Int):Rat)
theorem KE (n:Int):Sq 64 (hR n):=by have h:=Nw (n.tdiv 41%6);exact Sq.ratio (Sm.lit (by omega)) (Sm.lit (by omega)) (by omega)
theorem Nx {n:Int} (h:ax n):ax (n.tdiv 41):=by
 obtain⟨h1,h2⟩:=h;rcases Int.lt_or_le n 0 with h0 | h0
 ·obtain⟨m,rfl⟩:∃m:Int,n = -m:=⟨-n,by omega⟩
  rw[Int.neg_tdiv,Dh (by omega)];constructor<;>omega
 ·rw[Dh h0];constructor<;>omega
theorem mW {w w':World} (h:cK w) (e:Ext w w'):cK w':=h.ext e
theorem QX {w:World} {j:Int} (hj:0<=j/\j<6):(Instr.index 135 (.agg #[.int .i64 1,.int .i64 1,.int .i64 1,.int .i64 2,.int .i64 3,.int .i64 4]) (.int .i64 j)).run Tryz.prog w = .ok (.int .i64 (dd j)) w:=by
 obtain⟨j,rfl⟩:=uA hj.1;have hs:(Tryz.prog.info? 2).map (·.size)=some 1:=by kernel_rfl
 obtain⟨inf,hi,br⟩:=ja.1 hs;rcases j with _ | _ | _ | _ | _ | _ | j
 all_goals first | omega | simp[Instr.index,asIntOf,run_underlying Tryz.underlying135,run_underlying Tryz.underlying2,sizeOf,typeInfo,hi,br,part,dd,isAgg]
theorem ZX {w w':World} {g:Nat} {t:TypeId} {cs:List Value} (h:ar w g t cs) (hb:∀v∈cs,bf v=true) (k:bS g w w'):Kp (λ_=>False) w w':=
 ⟨k.size,λi hi ho=>by
  rcases ho with h' | ⟨j,v,h1,h2⟩
  ·exact h'.elim
  ·refine k.block i hi λe=>?_;injection e with e
   subst e;rw[h.cell] at h1;rw[hb v (uy h1)] at h2
   cases h2⟩
set_option maxRecDepth 20000 in
theorem KF (n:Int) (hn:ax n) (w:World) (ht:cK w):Calls Tryz.prog 31 #[.int .i64 n] w (λe w'=>∃v,e = .returned v/\Ext w w'/\aq (λ_=>True) w' dX (.k .rq (hR n)) v):=by
 have HP1:Hid (∀W,cK W->Calls Tryz.prog 16 #[.int .i64 n,.int .i64 41] W (cg (.int .i64 (n%41)) W)):=aad λW hT=>(qV nJ (args:=[.k (.int .i64) n,.k (.int .i64) (41:Int)]) (vs:=[.int .i64 n,.int .i64 41]) rfl ⟨hn,by decide,by decide⟩ rfl hT ⟨.mkInt _ _,.mkInt _ _,trivial⟩).mono λe w' ⟨v,h1,h2,h3⟩=>by obtain rfl:=h3.int;exact⟨h1,h2⟩
 have HP2:Hid (∀W,cK W->Calls Tryz.prog 16 #[.int .i64 (n.tdiv 41),.int .i64 6] W (cg (.int .i64 (n.tdiv 41%6)) W)):=aad λW hT=>(qV nJ (args:=[.k (.int .i64) (n.tdiv 41),.k (.int .i64) (6:Int)]) (vs:=[.int .i64 (n.tdiv 41),.int .i64 6]) rfl ⟨Nx hn,by decide,by decide⟩ rfl hT ⟨.mkInt _ _,.mkInt _ _,trivial⟩).mono λe w' ⟨v,h1,h2,h3⟩=>by obtain rfl:=h3.int;exact⟨h1,h2⟩
 have hd:=Nw (n.tdiv 41%6);have q1:ax (n%41-20):=⟨by omega,by omega⟩
 have q2:ax (dd (n.tdiv 41%6)):=⟨by omega,by omega⟩
 have q3:dd (n.tdiv 41%6)≠0:=by omega
 have HO:Hid (∀W,cK W->Calls Tryz.prog 87 #[.int .i64 (n%41-20),.int .i64 (dd (n.tdiv 41%6))] W (λe w'=>∃v,e = .returned v/\Ext W w'/\aq (λ_=>True) w' dX (.k .rq (hR n)) v)):=aad λW hT=>qV xR (args:=[.k (.int .i64) (n%41-20),.k (.int .i64) (dd (n.tdiv 41%6))]) (vs:=[.int .i64 (n%41-20),.int .i64 (dd (n.tdiv 41%6))]) rfl ⟨q1,q2,q3⟩ rfl hT ⟨.mkInt _ _,.mkInt _ _,trivial⟩;have e1:IntKind.i64.wrap (n%41-20)=n%41-20:=by rw[IntKind.wrap_i64];omega
 have e2:IntKind.i64.wrap (n.tdiv 41)=n.tdiv 41:=by obtain⟨h1,h2⟩:=Nx hn;rw[IntKind.wrap_i64];omega
 have HT:=aad ht;have h6:0<=n.tdiv 41%6/\n.tdiv 41%6<6:=by omega
 have H6:=aad h6;clear ht hd hn h6 q1 q2 q3;go_enter Tryz.func31,Tryz.ntmps31
 go_wp2_with fail
 have hx:Ext w (w.alloc (.cells #[.bool false,.slice none 0 0,.slice none 0 0] 70)):=(Ext.refl w).alloc _;have hr:=ar.new w 70 [.bool false,.slice none 0 0,.slice none 0 0];have HX:=aad hx;have HR:=aad hr;clear hx hr;refine(HP1.out _ (mW HT.out HX.out)).mono ?_;rintro e w1 ⟨rfl,bU⟩;have im:=aad bU;clear bU;go_wp2_with fail
 refine(HP2.out _ (mW (mW HT.out HX.out) im.out)).mono ?_;rintro e w2 ⟨rfl,fP⟩;have mo:=aad fP;clear fP;go_wp2_with fail
 rw[QX H6.out];go_wp2_with fail
 refine(HO.out _ (mW (mW (mW HT.out HX.out) im.out) mo.out)).mono ?_;rintro e w3 ⟨v3,rfl,eR,WD⟩;obtain⟨A,c,B,d,rfl,k1,k2⟩:=WD.rqv;have bx:=((HR.out.ext im.out).ext mo.out).ext eR;have r0:w3.cell? ⟨w.heap.size,0,none⟩=some (.bool false):=bx.cell 0;have r1:w3.cell? ⟨w.heap.size,1,none⟩=some (.slice none 0 0):=bx.cell 1;have r2:w3.cell? ⟨w.heap.size,2,none⟩=some (.slice none 0 0):=bx.cell 2;have f0:w3.frozen? ⟨w.heap.size,0,none⟩=false:=bx.frozen 0;have f1:w3.frozen? ⟨w.heap.size,1,none⟩=false:=bx.frozen 1;have f2:w3.frozen? ⟨w.heap.size,2,none⟩=false:=bx.frozen 2;have he:Ext w w3:=((HX.out.trans im.out).trans mo.out).trans eR;have HE:=aad he;have Pl:=aad k1;have Zt:=aad k2;clear he k1 k2 eR WD;go_wp2
 have hb:=aad (bS.set (bS.set (bS.set (bS.refl w.heap.size w3) 0 (.bool (decide ((hR n).num<0)))) 1 (.slice A (nl (hR n).num.natAbs) c)) 2 (.slice B (nl (hR n).den) d));have kp:=aad (ZX bx (λv hv=>by simp at hv;rcases hv with rfl | rfl<;>rfl) hb.out);refine bodyPost_ret (results_cell_row (p:=2) rfl _ _ w.heap.size 70 #[.bool (decide ((hR n).num<0)),.slice A (nl (hR n).num.natAbs) c,.slice B (nl (hR n).den) d] (0,0) _ rfl (((bx.set 0 _).set 1 _).set 2 _) Tryz.underlying70 rfl (by kernel_rfl)) rfl ⟨_,rfl,hb.out.ext HE.out (bX _),.abb ⟨A,c,B,d,rfl,ie Pl.out kp.out,ie Zt.out kp.out⟩⟩
def ZY:az:=⟨31,false,on1 (.int .i64) (λn=>some (ax n)) λn=>.k .rq (hR n)⟩
theorem CH:ah (cfg []) ZY:=nB (enters_of Tryz.func31 (by kernel_rfl) rfl) (λ_=>rfl) λF n u w hg ht hu=>by obtain rfl:=hu.int;exact(KF n hg w ht).mono λe w' ⟨v,h1,h2,h3⟩=>⟨v,h1,h2,.abb h3.rqv⟩
def aA {α:Type} (n:Nat) (f:Nat->α):List α:=(List.range n).map f
section
variable {α β:Type}
@[simp] theorem mX (n:Nat) (f:Nat->α):(aA n f).length=n:=by simp[aA]
theorem fW {n i:Nat} {f:Nat->α} (h:i<n) (d:α):(aA n f).getD i d=f i:=by rw[au,aA,vu,CQ h];rfl
theorem ss {n i:Nat} {f:Nat->α} (h:n<=i) (d:α):(aA n f).getD i d=d:=by rw[au,iQ (by simpa using h)];rfl
theorem tI (n:Nat) (f:Nat->α):aA (n+1) f=aA n f++[f n]:=by simp[aA,GY]
theorem bE {n:Nat} {f g:Nat->α} (h:∀i,i<n->f i=g i):aA n f=aA n g:=GZ λi hi=>h i (tR.1 hi)
theorem fp {xs ys:List α} (d:α) (hl:xs.length=ys.length) (h:∀i,i<xs.length->xs.getD i d=ys.getD i d):xs=ys:=by
 refine Gq λi=>?_;rcases aV i xs.length with hi | hi
 ·have:=h i hi;rw[au,au,bF hi,bF (by omega)] at this;rw[bF hi,bF (by omega)];exact Co some this
 ·rw[iQ hi,iQ (by omega)]
theorem ad3 (xs:List α) (d:α):aA xs.length (λi=>xs.getD i d)=xs:=fp d (by simp) λi hi=>fW (by simpa using hi) d
theorem vt {xs:List α} {n:Nat} {f:Nat->α} (d:α) (hl:xs.length=n) (h:∀i,i<n->xs.getD i d=f i):xs=aA n f:=fp d (by simpa using hl) λi hi=>by rw[fW (by omega) d];exact h i (by omega)
theorem b8 (xs:List α) (i j:Nat) (x d:α) (h:i<xs.length):(xs.set i x).getD j d=if j=i then x else xs.getD j d:=by
 rw[au,Gt];by_cases e:i=j
 ·subst e;simp[h]
 ·rw[dw e,dw (λe'=>e e'.symm),au]
theorem mY {n i:Nat} {f:Nat->α} {x:α} (h:i<n):(aA n f).set i x=aA n (λj=>if j=i then x else f j):=by
 cases n with
 | zero=>omega
 | succ n=>
  refine fp x (by simp) λj hj=>?_;have hj:j<n+1:=by simpa using hj
  rw[b8 _ _ _ _ _ (by simpa using h),fW hj,fW hj]
theorem sv (n:Nat) (f:Nat->α) (g:α->β):(aA n f).map g=aA n (λi=>g (f i)):=by simp[aA,Function.comp_def]
theorem ahw {n k:Nat} {f:Nat->α} (h:k<=n):(aA n f).take k=aA k f:=by
 cases k with
 | zero=>rfl
 | succ k=>
  refine fp (f 0) (by simp;omega) λi hi=>?_;have hi:i<k+1:=by simp at hi;omega
  rw[fW hi,au,List.getElem?_take,fi hi,<-au,fW (by omega)]
theorem iO (n:Nat) (x:α):List.replicate n x=aA n (λ_=>x):=
 fp x (by simp) λi hi=>by
  have hi:i<n:=by simpa using hi
  rw[fW hi,au,yh,fi hi];rfl
theorem uW {xs:List α} {i:Nat} (h:i<xs.length) (d:α):xs.take (i+1)=xs.take i++[xs.getD i d]:=by rw[List.take_add_one,bF h,au,bF h];rfl
theorem ahx {xs:List α} {x:α} (h:x∈xs) (d:α):∃i,i<xs.length/\xs.getD i d=x:=by obtain⟨i,hi⟩:=yV.1 h;exact⟨i,(tD.1 hi).1,by rw[au,hi];rfl⟩
theorem Ao {xs:List α} {i:Nat} (h:i<xs.length) (d:α):xs.getD i d∈xs:=by rw[au,bF h];exact FY h
theorem mZ {xs:List α} {i:Nat} (h:xs.length<=i) (d:α):xs.getD i d=d:=by rw[au,iQ h];rfl
theorem xT {xs ys:List α} {i:Nat} (h:i<xs.length) (d:α):(xs++ys).getD i d=xs.getD i d:=by rw[au,iR h,au]
theorem xU {xs ys:List α} {i:Nat} (h:xs.length<=i) (d:α):(xs++ys).getD i d=ys.getD (i-xs.length) d:=by rw[au,pq h,au]
theorem kY (xs:List α) (k i:Nat) (d:α):(xs.drop k).getD i d=xs.getD (k+i) d:=by rw[au,Aq,au]
theorem getD_take {xs:List α} {k i:Nat} (h:i<k) (d:α):(xs.take k).getD i d=xs.getD i d:=by rw[au,List.getElem?_take,fi h,au]
theorem getD_map {xs:List α} {g:α->β} {i:Nat} (h:i<xs.length) (d:α) (e:β):(xs.map g).getD i e=g (xs.getD i d):=by rw[au,vu,au,bF h];rfl
end
def aG (n m:Nat) (f:Nat->Nat->Rat):List (List Rat):=aA n λi=>aA m (f i)
def el (M:List (List Rat)) (i j:Nat):Rat:=(M.getD i []).getD j 0
def apV (f:Nat->Rat):Nat->Rat
 | 0=>0
 | n+1=>apV f n+f n
theorem uv {n:Nat} {f g:Nat->Rat} (h:∀i,i<n->f i=g i):apV f n=apV g n:=by
 induction n with
 | zero=>rfl
 | succ n ih=>rw[apV,apV,ih λi hi=>h i (by omega),h n (by omega)]
theorem Ny {n m i j:Nat} {f:Nat->Nat->Rat} (hi:i<n) (hj:j<m):el (aG n m f) i j=f i j:=by unfold el aG;rw[fW hi,fW hj]
theorem na {n m i:Nat} {f:Nat->Nat->Rat} (hi:i<n):(aG n m f).getD i []=aA m (f i):=fW hi _
@[simp] theorem ab9 (n m:Nat) (f:Nat->Nat->Rat):(aG n m f).length=n:=mX ..
theorem jn {n m:Nat} {f g:Nat->Nat->Rat} (h:∀i j,i<n->j<m->f i j=g i j):aG n m f=aG n m g:=bE λi hi=>bE λj hj=>h i j hi hj
def SL (k:Nat) (xs:List Rat):Prop:=∀i,Sq k (xs.getD i 0)
def SM (k:Nat) (M:List (List Rat)):Prop:=∀i,SL k (M.getD i [])
theorem SL.le {j k:Nat} {xs:List Rat} (h:SL j xs) (hk:j<=k):SL k xs:=λi=>(h i).le hk
theorem SM.le {j k:Nat} {M:List (List Rat)} (h:SM j M) (hk:j<=k):SM k M:=λi=>(h i).le hk
theorem SL.nil {k:Nat} (h:1<=k):SL k []:=λi=>by rw[mZ (by simp)];exact Sq.zero k h
theorem SL.mk {k n:Nat} {f:Nat->Rat} (h:∀i,i<n->Sq k (f i)) (hk:1<=k):SL k (aA n f):=λi=>by
 rcases aV i n with hi | hi
 ·rw[fW hi];exact h i hi
 ·rw[ss hi];exact Sq.zero k hk
theorem SM.mk {k n m:Nat} {f:Nat->Nat->Rat} (h:∀i j,i<n->j<m->Sq k (f i j)) (hk:1<=k):SM k (aG n m f):=λi=>by
 rcases aV i n with hi | hi
 ·rw[na hi];exact SL.mk (λj hj=>h i j hi hj) hk
 ·unfold aG;rw[ss hi];exact SL.nil hk
theorem SM.el {k:Nat} {M:List (List Rat)} (h:SM k M) (i j:Nat):Sq k (el M i j):=h i j
theorem Sq.apV {k n:Nat} {f:Nat->Rat} (h:∀i,i<n->Sq k (f i)):Sq ((k+1)*n+1) (apV f n):=by
 induction n with
 | zero=>exact Sq.zero _ (by omega)
 | succ n ih=>have:=(ih λi hi=>h i (by omega)).add (h n (by omega));exact this.le (by rw[Nat.mul_succ];omega)
def cE (l:List Int) (i:Nat):Rat:=if i<l.length then hR (l.getD i 0) else 0
theorem WT (l:List Int) (i:Nat):Sq 64 (cE l i):=by
 unfold cE;split
 ·exact KE _
 ·exact Sq.zero 64 (by omega)
theorem QY (l:List Int) (k j:Nat):cE (aM9 l (some (if ((k:Nat):Int)<((l.length:Nat):Int) then ((k:Nat):Int) else ((l.length:Nat):Int))) none) j=cE l (k+j):=by
 by_cases h:k<l.length
 ·rw[fi (by omega)];show cE (l.drop k) j=_;unfold cE;rw[Cf,kY];by_cases h':k+j<l.length
  ·rw[fi (by omega),fi h']
  ·rw[dw (by omega),dw h']
 ·rw[dw (by omega)];show cE (l.drop l.length) j=_;unfold cE;rw[Ac,dw (by simp),dw (by omega)]
theorem QZ {l:List Int} (h:∀i,ax (l.getD i 0)) (k:Int) (i:Nat):ax ((aM9 l (some k) none).getD i 0):=by show ax ((l.drop k.toNat).getD i 0);rw[kY];exact h _
theorem eD {α:Type} {n:Nat} {f:Nat->α} {v:α} (h:v=f n):(aA n f).append [v]=aA (n+1) f:=by rw[h];exact(tI n f).symm
theorem qW {α:Type} {xs:List α} {i:Nat} {d:α} (h:i<xs.length):(xs.take i).append [xs.getD i d]=xs.take (i+1):=(uW h d).symm
noncomputable def LL1:List az:=ZY::aa7::xQ::[]
theorem Nz:bd LL1:=⟨CH,WL,mV,trivial⟩
def fhQ:CF
 | [.k (.int .i64) n]=>some (some (ax n),.k .q (hR n),[])
 | _=>none
def chQ:az:=⟨12,false,fhQ⟩
def adm (n:Int):bk:=⟨nU,nL,nR,nU⟩
def vhQ (n:Int):Prop:=ax n/\Sq BQ (hR n)/\hR n=hR n
theorem ZZ (n:Int):aw LL1 [] (adm n) Tryz.f12 (.k .q (hR n)) [.k (.int .i64) n]=vhQ n:=by kernel_rfl
theorem Z0 (n:Int) (hg:ax n):vhQ n:=by exact⟨hg,(KE n).le (by unfold BQ;omega),rfl⟩
theorem Z1:ah (cfg []) chQ:=cf Nz bp Tryz.func12 λa _ _ _ hc hg hf=>by change fhQ a=_ at hc;unfold fhQ at hc;split at hc<;>cases hc;cases aY (ZZ _) (Z0 _ hg);exact⟨rfl,by kernel_rfl,_,by assumption⟩
def a5p:CF
 | [.k (.list (.int .i64)) l,.k (.int .i64) ((n:Nat):Int)]=>some (some ((∀i,ax (l.getD i 0))/\n<=1000000000000),.k (.list .rq) (aA n (cE l)),[])
 | _=>none
def aiq:az:=⟨51,false,a5p⟩
def air (l:List Int) (n:Nat):bk:=⟨nU,λkey_=>match key_ with
 | 3=>some (⟨Nat,λi=>[(0,.k (.list (.int .i64)) l),(1,.k (.int .i64) ((n:Nat):Int)),(5,.own 5 0 3),(6,.k (.int .i64) ((i:Nat):Int))],
 λi=>[(5,.arr 70 .rq (aA i (cE l)))],λ_ i=>i<=n,λi=>n-i⟩) | _=>none,nR,nU⟩
def agF (l:List Int) (n:Nat):Prop:=∃(x0:Nat),((l=l/\(n:Int)=↑n/\(0:Int)=(x0:Int))/\aA x0 (cE l)=[])/\x0<=n/\∀(x:Nat),x<=n->bif decide ((x:Int)<↑n)
 then l.length<=(9223372036854775807:Nat)->bif decide ((x:Int)<↑l.length) then (0<=(x:Int)/\(x:Int)<↑l.length)/\ax (l.getD
 (x:Int).toNat (0:Int))/\(aA x (cE l)).length+[hR (l.getD (x:Int).toNat 0)].length<=aB/\ax ((x:Int)+1)/\∃(x':Nat),((l=l /\
 (n:Int)=↑n/\(x:Int)+1=↑x')/\(aA x (cE l)).append [hR (l.getD (x:Int).toNat 0)]=aA x' (cE l))/\x'<=n/\n-x' <
 n-x else ax (0:Int)/\(aA x (cE l)).length+[(↑(0:Int):Rat)].length<=aB/\ax ((x:Int)+1)/\∃(x':Nat),((l=l/\(n:Int)=↑n
 /\ (x:Int)+1=↑x')/\(aA x (cE l)).append [(↑(0:Int):Rat)]=aA x' (cE l))/\x'<=n/\n-x'<n-x else aA x (cE l)=aA n (cE l)
theorem ahy (l:List Int) (n:Nat):aw LL1 [] (air l n) Tryz.f51 (.k (.list .rq) (aA n (cE l))) [.k (.list (.int .i64)) l,.k (.int .i64) ((n:Nat):Int)]=agF l n:=by kernel_rfl
theorem ahz (l:List Int) (n:Nat) (hg:(∀i,ax (l.getD i 0))/\n<=1000000000000):agF l n:=by
 obtain⟨hl,hn⟩:=hg;unfold agF;refine⟨0,⟨⟨rfl,rfl,rfl⟩,rfl⟩,ia _,λi hi=>aH (λh _=>aH (λh'=>⟨⟨by omega,h'⟩,hl i,by simp[aB];omega,⟨by omega,by omega⟩,i+1,⟨⟨rfl,rfl,rfl⟩,eD ?_⟩,by omega,by omega⟩) λh'=>⟨⟨by omega,by omega⟩,by simp[aB];omega,⟨by omega,by omega⟩,i+1,⟨⟨rfl,rfl,rfl⟩,eD ?_⟩,by omega,by omega⟩) λh=>?_⟩
 ·exact(fi (by omega)).symm
 ·exact(dw (by omega)).symm
 ·rw[show i=n by omega]
theorem ahA:ah (cfg []) aiq:=cf Nz bp Tryz.func51 λa _ _ _ hc hg hf=>by change a5p a=_ at hc;unfold a5p at hc;split at hc<;>cases hc;cases aY (ahy _ _) (ahz _ _ hg);exact⟨rfl,by kernel_rfl,_,by assumption⟩
noncomputable def LL2:List az:=aiq::LL1
theorem NA:bd LL2:=⟨ahA,Nz⟩
def a4A:CF
 | [.k (.list (.int .i64)) l,.k (.int .i64) ((n:Nat):Int),.k (.int .i64) ((m:Nat):Int)]=>some (some ((∀i,ax (l.getD i 0))/\n<=1000000/\m<=1000000),.k (.list (.list .rq)) (aG n m λi j=>cE l (i*m+j)),[])
 | _=>none
def aiX:az:=⟨50,false,a4A⟩
def ahB (l:List Int) (n m:Nat):bk:=⟨nU,λkey_=>match key_ with
 | 3=>some (⟨Nat,λi=>[(0,.k (.list (.int .i64)) l),(1,.k (.int .i64) ((n:Nat):Int)),(2,.k (.int .i64) ((m:Nat):Int)),(7,.own 7 0 1),(8,.k (.int .i64) ((i:Nat):Int))],
 λi=>[(7,.arr 26 (.list .rq) (aG i m λi j=>cE l (i*m+j)))],λ_ i=>i<=n,λi=>n-i⟩) | _=>none,nR,nU⟩
def afx (l:List Int) (n m:Nat):Prop:=∃(x0:Nat),((l=l/\(n:Int)=↑n/\(m:Int)=↑m/\(0:Int)=(x0:Int))/\(aG x0 m λ(i j:Nat)=>cE l (i*m+j))=[])/\x0<=n/\∀
 (x:Nat),let u2:=aG x m λ(i j:Nat)=>cE l (i*m+j);
 let u1:=some (if (x:Int)*(m:Int)<↑l.length then (x:Int)*(m:Int) else (↑l.length:Int));x<=n->bif decide ((x:Int)<↑n) then
 l.length<=(9223372036854775807:Nat)->ax ((x:Int)*(m:Int))/\rz l.length u1 none none/\((∀(i:Nat),ax ((aM9 l u1 none).getD i 0))/\m <=
 (1000000000000:Nat))/\u2.length+[aA m (cE (aM9 l u1 none))].length<=aB/\ax ((x:Int)+1)/\∃(x':Nat),((l=l/\(n:Int)=↑n/\(↑m
 : Int)=(m:Int)/\(x:Int)+1=↑x')/\u2.append [aA m (cE (aM9 l u1 none))]=aG x' m λ(i j:Nat)=>cE l (i*m+j))/\x'<=n/\n -
 x'<n-x else u2=aG n m λ(i j:Nat)=>cE l (i*m+j)
theorem agG (l:List Int) (n m:Nat):aw LL2 [] (ahB l n m) Tryz.f50 (.k (.list (.list .rq)) (aG n m λi j=>cE l (i*m+j))) [.k (.list (.int .i64)) l,.k (.int .i64) ((n:Nat):Int),.k (.int .i64) ((m:Nat):Int)]=afx l n m:=by kernel_rfl
theorem agH (l:List Int) (n m:Nat) (hg:(∀i,ax (l.getD i 0))/\n<=1000000/\m<=1000000):afx l n m:=by
 obtain⟨hl,hn,hm⟩:=hg;unfold afx;refine⟨0,⟨⟨rfl,rfl,rfl,rfl⟩,rfl⟩,ia _,λi hi=>aH (λh _=>?_) λh=>?_⟩
 ·have hb:=x6 (show i<=1000000 by omega) hm;have e:(i:Int)*(m:Int)=((i*m:Nat):Int):=(xX i m).symm;rw[e];refine⟨⟨by omega,by omega⟩,⟨by split<;>omega,by split<;>omega⟩,⟨QZ hl _,by omega⟩,by simp[aB];omega,⟨by omega,by omega⟩,i+1,⟨⟨rfl,rfl,rfl,rfl⟩,eD ?_⟩,by omega,by omega⟩;exact bE λj _=>QY l _ j
 ·rw[show i=n by omega]
theorem agI:ah (cfg []) aiX:=cf NA bp Tryz.func50 λa _ _ _ hc hg hf=>by change a4A a=_ at hc;unfold a4A at hc;split at hc<;>cases hc;cases aY (agG _ _ _) (agH _ _ _ hg);exact⟨rfl,by kernel_rfl,_,by assumption⟩
def a3A:CF
 | [.k (.list .rq) xs]=>some (some (SL BQ xs),.k (.list .q) xs,[])
 | _=>none
def xV:az:=⟨10,false,a3A⟩
def KG (xs:List Rat):bk:=⟨nU,λkey_=>match key_ with
 | 3=>some (⟨Nat,λi=>[(0,.k (.list .rq) xs),(3,.own 3 0 5),(4,.k (.int .i64) ((i:Nat):Int))],
 λi=>[(3,.arr 40 .q (xs.take i))],λ_ i=>i<=xs.length,λi=>xs.length-i⟩) | _=>none,nR,nU⟩
def xW (xs:List Rat):Prop:=∃(x0:Nat),((xs=xs/\(0:Int)=(x0:Int))/\List.take x0 xs=[])/\x0<=xs.length/\∀(x:Nat),x<=xs.length->xs.length<=aB->bif decide ((x:Int) <
 (↑xs.length:Int)) then (0<=(x:Int)/\(x:Int)<↑xs.length)/\Sq BQ (xs.getD (x:Int).toNat 0)/\(List.take x xs).length+[xs.getD (↑x
 : Int).toNat 0].length<=aB/\ax ((x:Int)+1)/\∃(x':Nat),((xs=xs/\(x:Int)+1=↑x')/\(List.take x xs).append [xs.getD
 (x:Int).toNat (0:Rat)]=List.take x' xs)/\x'<=xs.length/\xs.length-x'<xs.length-x else List.take x xs=xs
theorem F7 (xs:List Rat):aw LL2 [] (KG xs) Tryz.f10 (.k (.list .q) xs) [.k (.list .rq) xs]=xW xs:=by kernel_rfl
theorem F8 (xs:List Rat) (hg:SL BQ xs):xW xs:=by unfold xW;refine⟨0,⟨⟨rfl,rfl⟩,rfl⟩,ia _,λi hi hL=>aH (λh=>⟨⟨by omega,h⟩,hg i,by unfold aB at hL ⊢;simp;omega,⟨by unfold aB at hL;omega,by unfold aB at hL;omega⟩,i+1,⟨⟨rfl,rfl⟩,qW (by omega)⟩,by omega,by omega⟩) λh=>?_⟩;exact jo (by omega)
theorem uw:ah (cfg []) xV:=cf NA bp Tryz.func10 λa _ _ _ hc hg hf=>by change a3A a=_ at hc;unfold a3A at hc;split at hc<;>cases hc;cases aY (F7 _) (F8 _ hg);exact⟨rfl,by kernel_rfl,_,by assumption⟩
noncomputable def Z2:List az:=xV::LL2
theorem CI:bd Z2:=⟨uw,NA⟩
def a2G:CF
 | [.k (.list (.list .rq)) M]=>some (some (SM BQ M),.k (.list (.list .q)) M,[])
 | _=>none
def Ap:az:=⟨9,false,a2G⟩
def F9 (M:LM):bk:=⟨nU,λkey_=>match key_ with
 | 3=>some (⟨Nat,λi=>[(0,.k (.list (.list .rq)) M),(3,.own 3 0 1),(4,.k (.int .i64) ((i:Nat):Int))],
 λi=>[(3,.arr 31 (.list .q) (M.take i))],λ_ i=>i<=M.length,λi=>M.length-i⟩) | _=>none,nR,nU⟩
def tJ (M:LM):Prop:=∃(x0:Nat),((M=M/\(0:Int)=(x0:Int))/\List.take x0 M=[])/\x0<=M.length/\∀(x:Nat),x<=M.length->M.length<=aB->bif decide ((x:Int)<(↑M.length
 : Int)) then (0<=(x:Int)/\(x:Int)<↑M.length)/\SL BQ (M.getD (x:Int).toNat [])/\(List.take x M).length+[M.getD (x:Int).toNat []].length
 <= aB/\ax ((x:Int)+1)/\∃(x':Nat),((M=M/\(x:Int)+1=↑x')/\(List.take x M).append [M.getD (x:Int).toNat []]=List.take x'
 M)/\x'<=M.length/\M.length-x'<M.length-x else List.take x M=M
theorem CJ (M:LM):aw Z2 [] (F9 M) Tryz.f9 (.k (.list (.list .q)) M) [.k (.list (.list .rq)) M]=tJ M:=by kernel_rfl
theorem CK (M:LM) (hg:SM BQ M):tJ M:=by unfold tJ;refine⟨0,⟨⟨rfl,rfl⟩,rfl⟩,ia _,λi hi hL=>aH (λh=>⟨⟨by omega,h⟩,hg i,by unfold aB at hL ⊢;simp;omega,⟨by unfold aB at hL;omega,by unfold aB at hL;omega⟩,i+1,⟨⟨rfl,rfl⟩,qW (by omega)⟩,by omega,by omega⟩) λh=>?_⟩;exact jo (by omega)
theorem CL:ah (cfg []) Ap:=cf CI bp Tryz.func9 λa _ _ _ hc hg hf=>by change a2G a=_ at hc;unfold a2G at hc;split at hc<;>cases hc;cases aY (CJ _) (CK _ hg);exact⟨rfl,by kernel_rfl,_,by assumption⟩
def dW (xs ys:List Rat):Rat:=apV (λk=>xs.getD k 0*ys.getD k 0) xs.length
def lM (xs ys:List Rat):Prop:=∃j k,SL j xs/\SL k ys/\(j+k+1)*xs.length+j+k+1<=BQ
theorem lM.at {xs ys:List Rat} (h:lM xs ys) (i:Nat):Sq BQ (xs.getD i 0)/\Sq BQ (ys.getD i 0)/\Sq BQ (xs.getD i 0*ys.getD i 0):=by obtain⟨j,k,h1,h2,h3⟩:=h;exact⟨(h1 i).le (by omega),(h2 i).le (by omega),((h1 i).mul (h2 i)).le (by omega)⟩
theorem lM.sum {xs ys:List Rat} (h:lM xs ys) {i:Nat} (hi:i<=xs.length):Sq BQ (apV (λk=>xs.getD k 0*ys.getD k 0) i):=by obtain⟨j,k,h1,h2,h3⟩:=h;have h4:=eJ (j+k+1) hi;exact(Sq.apV (k:=j+k) (n:=i) λt _=>(h1 t).mul (h2 t)).le (by omega)
theorem x4 {xs ys:List Rat} {j k:Nat} (h1:SL j xs) (h2:SL k ys):Sq ((j+k+1)*xs.length+1) (dW xs ys):=Sq.apV λt _=>(h1 t).mul (h2 t)
theorem gz {x y:Rat}:fS x y=0↔x=y:=by
 unfold fS;constructor
 ·intro h;split at h
  ·omega
  ·split at h
   ·assumption
   ·omega
 ·intro h;subst h;rw[dw Rat.lt_irrefl,fi rfl]
def bh (n x:Nat):List Nat:=aA n λt=>if t<x then t+1 else 0
def bD (x m:Nat) (F:Nat->Nat->Rat):LM:=[]::aG x m F
theorem pL (n x:Nat):(bh n x).length=n:=mX ..
theorem K3 (x m:Nat) (F:Nat->Nat->Rat):(bD x m F).length=x+1:=by simp[bD]
theorem x8 (n:Nat):List.replicate n 0=bh n 0:=iO n 0
theorem As {n i:Nat} (h:i<n):(bh n i).set i (i+1)=bh n (i+1):=by
 unfold bh;rw[mY h];refine bE λj _=>?_
 rcases uZ j i with h | h | h
 ·rw[dw (by omega),fi h,fi (by omega)]
 ·rw[fi h,fi (by omega),h]
 ·rw[dw (by omega),dw (by omega),dw (by omega)]
theorem tK {n m:Nat} {F:Nat->Nat->Rat}:List.map (λp=>(bD n m F).getD p []) (bh n n)=aG n m F:=by
 unfold bh bD aG;rw[sv];refine bE λi hi=>?_
 rw[fi hi,yT,fW hi]
def aj (M:LM):Bool:=match M with
 | []=>false
 | r::_=> !decide (r.length=0)&&M.all λx=>decide (x.length=r.length)
theorem nM {M:LM} (hp:0<M.length) (ay:(M.getD 0 []).length≠0) (h:∀j,j<M.length->(M.getD j []).length=(M.getD 0 []).length):aj M=true:=by
 cases M with
 | nil=>simp at hp
 | cons r rs=>
  have ay:r.length≠0:=by simpa using ay
  have:∀x∈(r::rs),x.length=r.length:=λx hx=>by obtain⟨i,hi⟩:=yV.1 hx;have aU:=(tD.1 hi).1;have:=h i aU;rw[au,hi] at this;simpa using this
  unfold aj;simp only[aI,tS,x7,tE,decide_eq_false_iff_not];exact⟨ay,this⟩
theorem ju {M:LM} (h:(M.getD 0 []).length=0\/∃i,i<M.length/\(M.getD i []).length≠(M.getD 0 []).length):aj M=false:=by
 cases M with
 | nil=>rfl
 | cons r rs=>
  cases hb:aj (r::rs) with
  | false=>rfl
  | true=>
   exfalso;unfold aj at hb;simp only[aI,tS,x7,tE,decide_eq_false_iff_not] at hb;obtain⟨h1,h2⟩:=hb;rcases h with h | ⟨i,hi,ay⟩
   ·exact h1 (by simpa using h)
   ·refine ay ?_;rw[au,bF hi];exact h2 _ (FY hi)
def al (M:LM):Nat:=(M.getD 0 []).length
theorem ba {M:LM} (h:aj M=true):0<M.length/\al M≠0/\∀i,i<M.length->(M.getD i []).length=al M:=by
 cases M with
 | nil=>cases h
 | cons r rs=>unfold aj at h;simp only[aI,tS,x7,tE,decide_eq_false_iff_not] at h;exact⟨by simp,h.1,λi hi=>h.2 _ (Ao hi [])⟩
theorem Lh {n m:Nat} (hn:0<n) (hm:0<m) (F:Nat->Nat->Rat):aj (aG n m F)=true:=
 nM (by simp;omega) (by rw[na hn];simp;omega) λj hj=>by rw[ab9] at hj;rw[na hj,na hn];simp
def bz (b:Bool) (M:LM):LM:=bif b then M else []
def bu (b:Bool):Int:=bif b then 0 else 5
theorem a8X {b:Bool} {X Y:Prop} (h1:b=false->X) (h2:b=true->Y):cond (!b) X Y:=by
 cases b with
 | true=>exact h2 rfl
 | false=>exact h1 rfl
noncomputable def LA1:List az:=[]
theorem NQ:bd LA1:=trivial
def a3B:CF
 | [.k (.list (.list .q)) M]=>some (none,.k .bool (aj M),[])
 | _=>none
def ya:az:=⟨119,false,a3B⟩
def Li (M:LM):bk:=⟨nU,λkey_=>match key_ with
 | 4=>some (⟨Nat,λi=>[(0,.k (.list (.list .q)) M),(2,.k .bool false),(15,.k (.list (.list .q)) M),(16,.k (.int .i64) ((M.length:Nat):Int)),(17,.k (.int .i64) ((i:Nat):Int))],
 λi=>[],λ_ i=>i<=M.length/\0<M.length/\((M.getD 0 []).length≠0)/\∀j,j<i->(M.getD j []).length=(M.getD 0 []).length,λi=>M.length-i⟩) | _=>none,nR,nU⟩
def yb (M:LM):Prop:=
 let t1:=M.getD (Int.toNat (0:Int)) [];
 let t2:=M.getD (0:Nat) [];
 M.length<=aB->bif decide ((↑M.length:Int)=0) then false=aj M else ((0:Int)<=(0:Int)/\(0:Int)<(↑M.length:Int))/\(t1.length<=aB->bif
 decide ((↑t1.length:Int)=0) then false=aj M else M.length<=aB->∃(x0:Nat),(M=M/\false=false/\M=M/\(↑M.length:Int)=↑M.length /\
 (0:Int)=(x0:Int))/\(x0<=M.length/\(0:Nat)<M.length/\t2.length≠(0:Nat)/\∀(j:Nat),j<x0->(M.getD j []).length=t2.length)/\∀(x:Nat),(x <=
 M.length/\(0:Nat)<M.length/\t2.length≠(0:Nat)/\∀(j:Nat),j<x->(M.getD j []).length=t2.length)->bif decide ((x:Int)<↑M.length) then ((0 :
 Int)<=(x:Int)/\(x:Int)<↑M.length)/\((M.getD (x:Int).toNat []).length<=aB->((0:Int)<=(0:Int)/\(0:Int)<(↑M.length:Int))/\(t1.length <=
 aB->bif !decide ((↑(M.getD (x:Int).toNat []).length:Int)=(↑t1.length:Int)) then false=aj M else ((-9223372036854775808:Int)<=(x:Int)+1 /\
 (x:Int)+1<=(9223372036854775807:Int))/\∃(x':Nat),(M=M/\false=false/\M=M/\(↑M.length:Int)=↑M.length/\(x:Int)+1 =
 (x':Int))/\(x'<=M.length/\(0:Nat)<M.length/\t2.length≠(0:Nat)/\∀(j:Nat),j<x'->(M.getD j []).length=t2.length)/\M.length-x'<M.length-x))
 else true=aj M)
theorem Gu (M:LM):aw LA1 [] (Li M) Tryz.f119 (.k .bool (aj M)) [.k (.list (.list .q)) M]=yb M:=by kernel_rfl
theorem Gx (M:LM) (hf:cJ [.k (.list (.list .q)) M]):yb M:=by
 unfold yb;dsimp only;intro h0;unfold aB at h0;refine aH (λh=>?_) λh=>⟨by omega,λh1=>aH (λh2=>?_) λh2=>λ_=>⟨0,⟨rfl,rfl,rfl,rfl,rfl⟩,⟨by omega,by omega,?_,λj hj=>by omega⟩,λi ⟨hi,hp,ay,bB⟩=>aH (λh3=>⟨⟨by omega,h3⟩,λ_=>⟨by omega,λ_=>dP (λh4=>?_) λh4=>⟨by omega,i+1,⟨rfl,rfl,rfl,rfl,rfl⟩,⟨by omega,hp,ay,λj hj=>?_⟩,by omega⟩⟩⟩) λh3=>?_⟩⟩
 ·cases M with
  | nil=>rfl
  | cons=>simp at h;omega
 ·exact(ju (.inl (show(M.getD 0 []).length=0 by have h2:((((M.getD 0 []).length:Nat):Int))=0:=h2;omega))).symm
 ·have h2:¬((((M.getD 0 []).length:Nat):Int))=0:=h2;omega
 ·have h4:¬((((M.getD i []).length:Nat):Int))=(((M.getD 0 []).length:Nat):Int):=h4;exact(ju (.inr ⟨i,by omega,by omega⟩)).symm
 ·rcases aV j i with h | h
  ·exact bB j h
  ·have:j=i:=by omega
   subst this;have h4:((((M.getD j []).length:Nat):Int))=(((M.getD 0 []).length:Nat):Int):=h4;omega
 ·exact(nM hp ay λj hj=>bB j (by omega)).symm
theorem uz:ah (cfg []) ya:=cf NQ bp Tryz.func119 λa _ _ _ hc hg hf=>by change a3B a=_ at hc;unfold a3B at hc;split at hc<;>cases hc;cases aY (Gu _) (Gx _ hf);exact⟨rfl,by kernel_rfl,_,by assumption⟩
theorem nQ {i n:Nat} (h:i<n) (hL:n<=aB):(-9223372036854775808:Int)<=(i:Int)+1/\(i:Int)+1<=9223372036854775807:=by unfold aB at hL;omega
theorem idx {i:Nat} {n:Int} (h:(i:Int)<n):0<=(i:Int)/\(i:Int)<n:=⟨by omega,h⟩
theorem sign_zero {x:Rat}:x.num.sign=0↔x=0:=by rw[Cn,CY]
theorem ly {L:List az} {f:FuncId} {fr:Bool} {c c':CF} (h:ah (cfg L) ⟨f,fr,c⟩) (H:∀args g r hn,c' args=some (g,r,hn)->bt g->∃g',c args=some (g',r,hn)/\bt g'):ah (cfg L) ⟨f,fr,c'⟩:=
 ⟨h.mu,λargs g r hn hc hg=>by obtain⟨g',h1,h2⟩:=H args g r hn hc hg;exact h.ok args g' r hn h1 h2⟩
theorem half {r:Nat} (h:r<=64):(2:Int)≠0/\ax ((r:Int).tdiv 2):=by rw[Dh (by omega)];exact⟨by omega,by unfold ax;omega⟩
noncomputable def XW:List az:=[]
theorem vx:bd XW:=trivial
def a3D:CF
 | [.k (.list .q) xs]=>some (none,.own 0 0 5,[.arr 40 .q xs])
 | _=>none
def Hb:az:=⟨183,false,a3D⟩
def LS (xs:List Rat):bk:=⟨nU,nL,nR,nU⟩
def yt (xs:List Rat):Prop:=∀b:Bool,(b=true->xs=[])->bif (bif true then b else !b) then xs=[] else ([]:List Rat).length+xs.length<=aB/\([]:List Rat).append xs=xs
theorem Hc (xs:List Rat):awp (cfg XW []) (LS xs) Tryz.f183.ntmps (Tryz.f183.body.getD .skip) (jj Tryz.f183.results.toList (.own 0 0 5) 5 (.arr 40 .q xs)) ⟨apL 0 [.k (.list .q) xs],[]⟩=yt xs:=by kernel_rfl
theorem Hd (xs:List Rat) (hf:cJ [.k (.list .q) xs]):yt xs:=by
 unfold yt;intro b hb
 cases b with
 | true=>exact hb rfl
 | false=>exact⟨by have h:xs.length<=aB:=hf.1.1;simpa using h,rfl⟩
theorem He:ah (cfg []) Hb:=oY vx bp Tryz.func183 (by kernel_rfl) (by kernel_rfl) rfl λargs g r hn hc hg hf=>by
 replace hc:a3D args=some (g,r,hn):=hc;unfold a3D at hc;split at hc
 ·cases hc;have hv:=Hd _ hf
  cases aY (Hc _) hv;exact⟨by kernel_rfl,_,5,_,rfl,rfl,rfl,by assumption⟩
 ·cases hc
noncomputable def LE2:List az:=Hb::[]
theorem C9:bd LE2:=⟨He,trivial⟩
def Da:CF
 | [.k (.list (.list .q)) M]=>some (none,.own 0 0 1,[.bc 31 40 .q (bh M.length M.length) ([]::M)])
 | _=>none
def N0:az:=⟨164,false,Da⟩
def Sj (M:LM):bk:=⟨nU,λkey_=>match key_ with
 | 3=>some (⟨Nat,λi=>[(3,.own 8 0 1),(9,.k (.list (.list .q)) M),(10,.k (.int .i64) ((M.length:Nat):Int)),(11,.k (.int .i64) ((i:Nat):Int))],
 λi=>[(8,.bc 31 40 .q (bh M.length i) ([]::M.take i))],λ_ i=>i<=M.length,λi=>M.length-i⟩) | _=>none,nR,nU⟩
def Db (M:LM):Prop:=M.length<=aB->(0<=(↑M.length:Int)/\(↑M.length:Int)<=(↑M.length:Int)/\(↑M.length:Int)<=(1099511627776:Int))/\(M.length<=aB->∃(x0:Nat),((M
 = M/\(↑M.length:Int)=↑M.length/\(0:Int)=(x0:Int))/\List.replicate (↑M.length:Int).toNat (0:Nat)=bh M.length x0/\[[]]=[]::List.take x0
 M)/\x0<=M.length/\∀(x:Nat),x<=M.length->bif decide ((x:Int)<↑M.length) then (0<=(x:Int)/\(x:Int)<↑M.length)/\((0:Int) <=
 (x:Int)/\(x:Int)<↑(bh M.length x).length)/\((x:Int).toNat<(bh M.length x).length/\([]::List.take x M).length<([]::List.take x M ++
 [M.getD (x:Int).toNat []]).length)/\ax ((x:Int)+1)/\∃(x':Nat),((M=M/\(↑M.length:Int)=↑M.length/\(x:Int)+1=(↑x' :
 Int))/\(bh M.length x).set (x:Int).toNat (([]::List.take x M).length)=bh M.length x'/\[]::List.take x M++[M.getD (x:Int).toNat []]=[]::List.take
 x' M)/\x'<=M.length/\M.length-x'<M.length-x else bh M.length x=bh M.length M.length/\[]::List.take x M=[]::M)
theorem LY (M:LM):awp (cfg LE2 []) (Sj M) Tryz.f164.ntmps (Tryz.f164.body.getD .skip) (jj Tryz.f164.results.toList (.own 0 0 1) 8 (.bc 31 40 .q (bh M.length M.length) ([]::M))) ⟨apL 0 [.k (.list (.list .q)) M],[]⟩=Db M:=by kernel_rfl
theorem LZ (M:LM) (hf:cJ [.k (.list (.list .q)) M]):Db M:=by
 unfold Db;intro hL;have Bn:=hL;unfold aB at Bn;refine⟨⟨by omega,by omega,by omega⟩,λ_=>⟨0,⟨⟨rfl,rfl,rfl⟩,x8 _,rfl⟩,ia _,λi hi=>aH (λh=>?_) λh=>?_⟩⟩
 ·have cw:i<M.length:=by omega
  refine⟨idx h,⟨by omega,by rw[pL];omega⟩,⟨by rw[pL];exact cw,by simp⟩,nQ cw hL,i+1,⟨⟨rfl,rfl,rfl⟩,?_,?_⟩,by omega,by omega⟩
  ·rw[show([]::List.take i M).length=i+1 by simp;omega];exact As cw
  ·exact Co (List.cons []) (qW cw)
 ·rw[show i=M.length by omega,qY];exact⟨rfl,rfl⟩
theorem L6:ah (cfg []) N0:=oY C9 bp Tryz.func164 (by kernel_rfl) (by kernel_rfl) rfl λargs g r hn hc hg hf=>by
 replace hc:Da args=some (g,r,hn):=hc;unfold Da at hc;split at hc
 ·cases hc;have hv:=LZ _ hf
  cases aY (LY _) hv;exact⟨by kernel_rfl,_,8,_,rfl,rfl,rfl,by assumption⟩
 ·cases hc
open Go.ChangeShapes Go.WideShapes Go.ChangeAt
abbrev Any:Nat->Prop:=λ_=>True
theorem Mg {ct:az} {args:List AV} {g:Option Prop} (h:ah (cfg []) ct) (hc:ct.c args=some (g,.k .bool true,[])) (hg:bt g) {w:World} {vs:List Value} (ht:cK w) (hv:VL Any w dX args vs) :
  Calls Tryz.prog ct.f vs.toArray w λe w'=>e = .returned (.bool true)/\Ext w w':=
 (h.ok args g _ [] hc hg Any w vs ht hv).mono λe w' ⟨v, β',he,hm,hr⟩=>by obtain⟨c,hc,hv⟩:=hr;have hc:c=[.bool true]:=hc;subst hc;exact⟨by rw[he,hv];rfl,hm.fr.ext⟩
theorem wf_i64 {n:Int} (h:(Lit.int .i64 n).wf=true):ax n:=by simp only[Lit.wf,aI,x7] at h;exact h
def U64 (x:Int):Prop:=0<=x/\x<=18446744073709551615
theorem wf_u64 {n:Int} (h:(Lit.int .u64 n).wf=true):U64 n:=by simp only[Lit.wf,aI,x7] at h;exact h
theorem yu:∀zs:List Int,(zs.map λn=>[Value.int .i64 n]).flatten=zs.map λn=>Value.int .i64 n
 | []=>rfl
 | z::zs=>by rw[Ag,Cs,yu zs];rfl
section
variable {H:Type} {enc:TypeId×Value->H} {W:World} {base:Nat} {v:Value} {d:DataW H} {p:List MemPlace} {t e:TypeId}
theorem Mh (ht:Tryz.prog.underlying t=some (.slice e)) (he:Tryz.prog.underlying e=some (.int .i64)) (hc:Tryz.prog.cellsOf e=1) {fuel:Nat} {cs:List Value} {x:DataW H×List MemPlace} (h:DataW.trod enc Tryz.prog W 0 (λ_=>true) true fuel t cs=some x) :
  ∃l:List Int,bj Any W (.list (.int .i64)) l cs/\∀i,ax (l.getD i 0):=by
 rcases open_ints ht he hc h with ⟨lz,_⟩ | ⟨a,len,cap,zs,lz,_,hl,hm,hz,_,aK,hwz⟩
 ·exact⟨[],⟨none,0,lz,bX _,ia _,λay=>absurd rfl ay⟩,λi=>by show ax 0;unfold ax;omega⟩
 ·simp only[if_true] at hz
  have hlen:(zs.take len).length=len:=by rw[iY];omega
  refine⟨zs.take len,⟨some a,cap,by rw[hlen];exact lz,by rw[hlen];exact hl,by rw[hlen];exact j3 hl hm,λay=>?_⟩,λi=>?_⟩
  ·have h0:0<len:=by
    rcases gA len with h | h
    ·subst h;simp at ay
    ·exact h
   obtain⟨ab,ao,spot⟩:=a
   have adt:spot=none:=by simpa [Addr.add] using World.cell?_spot (aK 0 (by omega))
   subst adt
   refine⟨ab,ao,(zs.take len).map λn=>[Value.int .i64 n],rfl,trivial,?_,λi hi=>?_,by simp,λi x c hx hc=>?_⟩
   ·have h:=aK 0 (by omega)
    rw[Addr.add_lit] at h
    exact World.block_lt_of_cell? W _ h
   ·rw[yu] at hi ⊢
    rw[uY,hlen] at hi
    have hcj:=aK i (by omega)
    rw[Addr.add_lit] at hcj
    rw[hcj,vu,tM hi]
    have OK:i<zs.length:=by omega
    rw[bF OK]
    simp[au,bF OK]
   ·rw[vu,hx] at hc
    injection hc with hc
    exact hc.symm
  ·rcases aV i (zs.take len).length with hi | hi
   ·rw[au,bF hi]
    exact wf_i64 (hwz _ (List.mem_of_mem_take (FY hi)))
   ·rw[au,iQ hi]
    show ax 0
    unfold ax;omega
theorem aet (ht:Tryz.prog.underlying t=some (.slice e)) (he:Tryz.prog.underlying e=some (.int .i64)) (hc:Tryz.prog.cellsOf e=1) (fV:Value.okWide Tryz.prog W .any base t v) (h:DataW.Trod enc Tryz.prog W 0 (λ_=>true) true t v d p) :
  ∃l:List Int,aq Any W dX (.k (.list (.int .i64)) l) v/\∀i,ax (l.getD i 0):=by
 obtain⟨a1,len,cap,rfl⟩:=okWide_slice ht fV
 obtain⟨fuel,hf⟩:=h
 obtain⟨l,h1,h2⟩:=Mh ht he hc hf
 exact⟨l,⟨_,h1,rfl⟩,h2⟩
end
def aA5 (F:Nat->Nat->Rat) (c:Nat):Nat->Nat->Nat
 | i,0=>i
 | i,k+1=>if F i c=0 then aA5 F c (i+1) k else i
def dk (F:Nat->Nat->Rat) (a b:Nat):Nat->Nat->Rat:=λi=>if i=a then F b else if i=b then F a else F i
def wa (F:Nat->Nat->Rat) (r:Nat) (k:Rat):Nat->Nat->Rat:=λi j=>if i=r then F i j*k else F i j
def abA (F:Nat->Nat->Rat) (r c:Nat):Nat->Nat->Rat:=λi j=>if i=r then F i j else F i j-F i c*F r j
def abv (n:Nat) (S:(Nat->Nat->Rat)×List Nat) (c:Nat):(Nat->Nat->Rat)×List Nat:=
 if aA5 S.1 c S.2.length (n-S.2.length)<n then
  (abA (wa (dk S.1 S.2.length (aA5 S.1 c S.2.length (n-S.2.length))) S.2.length (1/dk S.1 S.2.length (aA5 S.1 c S.2.length (n-S.2.length)) S.2.length c)) S.2.length c,S.2++[c])
 else S
def rr (n:Nat) (F:Nat->Nat->Rat):Nat->(Nat->Nat->Rat)×List Nat
 | 0=>(F,[])
 | c+1=>abv n (rr n F c) c
theorem acn (F:Nat->Nat->Rat) (c:Nat):∀k i,i<=aA5 F c i k/\aA5 F c i k<=i+k
 | 0,i=>by simp[aA5]
 | k+1,i=>by have:=acn F c k (i+1);unfold aA5;split<;>omega
theorem acx {F:Nat->Nat->Rat} {c:Nat}:∀{k i},aA5 F c i k<i+k->F (aA5 F c i k) c≠0
 | 0,i,h=>by simp[aA5] at h
 | k+1,i,h=>by
  unfold aA5 at h ⊢;split
  ·rename_i h0;rw[fi h0] at h;exact acx (by omega)
  ·assumption
theorem ac8 {F:Nat->Nat->Rat} {c:Nat}:∀{k i j},i<=j->j<aA5 F c i k->F j c=0
 | 0,i,j,h1,h2=>by simp[aA5] at h2;omega
 | k+1,i,j,h1,h2=>by
  unfold aA5 at h2;split at h2
  ·rename_i h0;rcases aV i j with h3 | h3
   ·exact ac8 (by omega) h2
   ·rw[show j=i by omega];exact h0
  ·omega
theorem agc {n:Nat} {S:(Nat->Nat->Rat)×List Nat} {c:Nat} (h:S.2.length<=n):(abv n S c).2.length<=n/\S.2.length<=(abv n S c).2.length:=by
 unfold abv;have:=acn S.1 c (n-S.2.length) S.2.length;split
 ·simp;omega
 ·omega
theorem acG (n:Nat) (F:Nat->Nat->Rat):∀c,(rr n F c).2.length<=n
 | 0=>ia n
 | c+1=>(agc (acG n F c)).1
theorem ais {n s:Nat} {S:(Nat->Nat->Rat)×List Nat} (hs:1<=s) (h:∀i j,Sq s (S.1 i j)) (c:Nat) (hn:S.2.length<=n):∀i j,Sq (5*s) ((abv n S c).1 i j):=by
 unfold abv;split
 ·rename_i hp;have hsw:∀i j,Sq s (dk S.1 S.2.length (aA5 S.1 c S.2.length (n-S.2.length)) i j):=λi j=>by
   unfold dk;split
   ·exact h _ _
   ·split
    ·exact h _ _
    ·exact h _ _
  have ay:dk S.1 S.2.length (aA5 S.1 c S.2.length (n-S.2.length)) S.2.length c≠0:=by unfold dk;rw[fi rfl];exact acx (by omega)
  have h1:Sq s (1:Rat):=Sq.int (n:=1) (Sm.one.le hs) hs;have hk:=h1.div (hsw S.2.length c) ay;generalize dk S.1 S.2.length (aA5 S.1 c S.2.length (n-S.2.length))=G at *
  generalize S.2.length=r at *
  have hinv:Sq s (1/G r c):=by rw[Gy,Gb];exact(hsw r c).inv ay
  have hsc:∀i j,Sq (2*s) (wa G r (1/G r c) i j):=λi j=>by
   unfold wa;split
   ·exact((hsw i j).mul hinv).le (by omega)
   ·exact(hsw i j).le (by omega)
  have agd:∀i j,i≠r->Sq s (wa G r (1/G r c) i j):=λi j hi=>by unfold wa;rw[dw hi];exact hsw i j
  intro i j;show Sq (5*s) (abA (wa G r (1/G r c)) r c i j);unfold abA;split
  ·exact(hsc i j).le (by omega)
  ·rename_i hi;exact((agd i j hi).sub ((agd i c hi).mul (hsc r j))).le (by omega)
 ·exact λi j=>(h i j).le (by omega)
theorem afy {n s:Nat} {F:Nat->Nat->Rat} (hs:1<=s) (h:∀i j,Sq s (F i j)):∀c i j,Sq (s*5^c) ((rr n F c).1 i j)
 | 0=>λi j=>(h i j).le (by simp)
 | c+1=>λi j=>by
  have h1:=ais (n:=n) (At hs (lN (n:=c) (show 0<5 by omega))) (afy hs h c) c (acG n F c) i j;have h2:s*5^(c+1)=5*(s*5^c):=by rw[jV,<-ky,eM]
  rw[h2];exact h1
theorem acj {f:Nat->Rat}:∀{n:Nat},(∀i,i<n->f i=0)->apV f n=0
 | 0,_=>rfl
 | n+1,h=>by rw[apV,acj λi hi=>h i (by omega),h n (by omega)];grind
theorem ace {f:Nat->Rat} {a:Nat}:∀{n:Nat},a<n->(∀i,i<n->i≠a->f i=0)->apV f n=f a
 | n+1,ha,h=>by
  rw[apV];by_cases e:a=n
  ·subst e;rw[acj λi hi=>h i (by omega) (by omega)];grind
  ·rw[ace (by omega) λi hi=>h i (by omega),h n (by omega) (λe'=>e e'.symm)];grind
theorem afa {f:Nat->Rat} {a b:Nat} (iL:a≠b):∀{n:Nat},a<n->b<n->(∀i,i<n->i≠a->i≠b->f i=0)->apV f n=f a+f b
 | n+1,ha,hb,h=>by
  rw[apV];by_cases e:a=n
  ·subst e;rw[ace (a:=b) (by omega) λi hi ay=>h i (by omega) (by omega) ay];grind
  ·by_cases e2:b=n
   ·subst e2;rw[ace (a:=a) (by omega) λi hi ay=>h i (by omega) ay (by omega)]
   ·rw[afa iL (by omega) (by omega) λi hi=>h i (by omega),h n (by omega) (λe'=>e e'.symm) (λe'=>e2 e'.symm)];grind
theorem acw (f g:Nat->Rat):∀n,apV (λi=>f i+g i) n=apV f n+apV g n
 | 0=>by simp only[apV];grind
 | n+1=>by simp only[apV];rw[acw f g n];grind
theorem abC (k:Rat) (f:Nat->Rat):∀n,apV (λi=>k*f i) n=k*apV f n
 | 0=>by simp only[apV];grind
 | n+1=>by simp only[apV];rw[abC k f n];grind
def Ker (n m:Nat) (F:Nat->Nat->Rat) (x:Nat->Rat):Prop:=∀i,i<n->apV (λj=>F i j*x j) m=0
theorem ahC {n m a b:Nat} {F:Nat->Nat->Rat} {x:Nat->Rat} (ha:a<n) (hb:b<n):Ker n m (dk F a b) x↔Ker n m F x:=by
 constructor
 ·intro h i hi;by_cases e1:i=a
  ·have:=h b hb;unfold dk at this;by_cases e2:b=a
   ·rw[fi e2] at this;rw[e1,<-e2];exact this
   ·rw[dw e2,fi rfl] at this;rw[e1];exact this
  ·by_cases e2:i=b
   ·have:=h a ha;unfold dk at this;rw[fi rfl] at this;rw[e2];exact this
   ·have:=h i hi;unfold dk at this;rw[dw e1,dw e2] at this;exact this
 ·intro h i hi;unfold dk;split
  ·exact h b hb
  ·split
   ·exact h a ha
   ·exact h i hi
theorem agJ {n m r:Nat} {F:Nat->Nat->Rat} {k:Rat} (hk:k≠0) {x:Nat->Rat}:Ker n m (wa F r k) x↔Ker n m F x:=by
 have e:∀i,apV (λj=>wa F r k i j*x j) m=if i=r then k*apV (λj=>F i j*x j) m else apV (λj=>F i j*x j) m:=λi=>by
  unfold wa;split
  ·rw[<-abC];exact uv λj _=>by grind
  ·rfl
 constructor
 ·intro h i hi;have:=h i hi;rw[e] at this;split at this
  ·rcases Gj.1 this with h1 | h1
   ·exact absurd h1 hk
   ·exact h1
  ·exact this
 ·intro h i hi;rw[e,h i hi];split
  ·grind
  ·rfl
theorem ahD {n m r c:Nat} {F:Nat->Nat->Rat} (hr:r<n) {x:Nat->Rat}:Ker n m (abA F r c) x↔Ker n m F x:=by
 have e:∀i,apV (λj=>abA F r c i j*x j) m=if i=r then apV (λj=>F i j*x j) m else apV (λj=>F i j*x j) m+(-(F i c))*apV (λj=>F r j*x j) m:=λi=>by
  unfold abA;split
  ·rfl
  ·rw[<-abC,<-acw];exact uv λj _=>by grind
 constructor
 ·intro h i hi;have h1:=h r hr;rw[e,fi rfl] at h1;have h2:=h i hi;rw[e] at h2;split at h2
  ·exact h2
  ·rw[h1] at h2;grind
 ·intro h i hi;rw[e,h i hi];split
  ·rfl
  ·rw[h r hr];grind
structure acs (n c:Nat) (F:Nat->Nat->Rat) (l:List Nat):Prop where
 len:l.length<=n
 lt:∀k,k<l.length->l.getD k 0<c
 inc:∀k k',k<k'->k'<l.length->l.getD k 0<l.getD k' 0
 one:∀k i,k<l.length->i<n->F i (l.getD k 0)=if i=k then 1 else 0
 pre:∀k j,k<l.length->j<l.getD k 0->F k j=0
 low:∀i j,l.length<=i->i<n->j<c->F i j=0
theorem acs.zero (n:Nat) (F:Nat->Nat->Rat):acs n 0 F []:=⟨ia n,λk h=>absurd h (nc k),λk k' _ h=>absurd h (nc k'),λk _ h=>absurd h (nc k),λk _ h=>absurd h (nc k),λ_ j _ _ h=>absurd h (nc j)⟩
theorem acs.step {n c:Nat} {S:(Nat->Nat->Rat)×List Nat} (h:acs n c S.1 S.2):acs n (c+1) (abv n S c).1 (abv n S c).2:=by
 obtain⟨F,l⟩:=S;have h:acs n c F l:=h;unfold abv;dsimp only;have hp1:=acn F c (n-l.length) l.length;have hp2:= @acx F c (n-l.length) l.length;have hp3:= @ac8 F c (n-l.length) l.length;have hlen:=h.len;generalize aA5 F c l.length (n-l.length)=p at *
 split
 ·rename_i hp;have ay:=hp2 (by omega);have hrn:l.length<n:=by omega
  generalize hr:l.length=r at *
  have hG:∀i j,r<=i->i<n->j<c->dk F r p i j=0:=λi j h1 h2 h3=>by
   unfold dk;split
   ·exact h.low p j (by omega) hp h3
   ·split
    ·exact h.low r j (by omega) hrn h3
    ·exact h.low i j (by omega) h2 h3
  have hGs:∀i j,i<r->dk F r p i j=F i j:=λi j h1=>by unfold dk;rw[dw (by omega),dw (by omega)]
  have hGr:dk F r p r c≠0:=by unfold dk;rw[fi rfl];exact ay
  generalize dk F r p=G at *
  have hHr:wa G r (1/G r c) r c=1:=by unfold wa;rw[fi rfl,Gy,Gb,Rat.mul_inv_cancel _ hGr]
  have hH:∀i j,r<=i->i<n->j<c->wa G r (1/G r c) i j=0:=λi j h1 h2 h3=>by
   unfold wa;split
   ·rw[hG i j h1 h2 h3];grind
   ·exact hG i j h1 h2 h3
  have hHs:∀i j,i<r->wa G r (1/G r c) i j=F i j:=λi j h1=>by unfold wa;rw[dw (by omega)];exact hGs i j h1
  generalize wa G r (1/G r c)=H at *
  have hEr:∀j,abA H r c r j=H r j:=λj=>by unfold abA;rw[fi rfl]
  have hEi:∀i j,i≠r->abA H r c i j=H i j-H i c*H r j:=λi j h1=>by unfold abA;rw[dw h1]
  have ha:∀k,k<r->(l++[c]).getD k 0=l.getD k 0:=λk hk=>xT (by omega) 0;have hb:(l++[c]).getD r 0=c:=by rw[xU (by omega),hr,Ay];rfl
  have hL:(l++[c]).length=r+1:=by rw[c6,hr];rfl
  show acs n (c+1) (abA H r c) (l++[c]);refine⟨by omega,λk hk=>?_,λk k' h1 h2=>?_,λk i hk hi=>?_,λk j hk hj=>?_,λi j h1 h2 h3=>?_⟩
  ·rcases aV k r with h4 | h4
   ·rw[ha k h4];have:=h.lt k (by omega);omega
   ·rw[show k=r by omega,hb];omega
  ·rcases aV k' r with h4 | h4
   ·rw[ha k' h4,ha k (by omega)];exact h.inc k k' h1 (by omega)
   ·rw[show k'=r by omega,hb,ha k (by omega)];exact h.lt k (by omega)
  ·rcases aV k r with h4 | h4
   ·rw[ha k h4];have aU:=h.lt k (by omega);have hz:H r (l.getD k 0)=0:=hH r _ (bX r) hrn aU;by_cases e:i=r
    ·rw[e,hEr,hz,dw (by omega)]
    ·rw[hEi i _ e,hz];have:H i (l.getD k 0)=if i=k then 1 else 0:=by
      rcases aV i r with h5 | h5
      ·rw[hHs i _ h5];exact h.one k i (by omega) hi
      ·rw[hH i _ h5 hi aU,dw (by omega)]
     rw[this];grind
   ·have e:k=r:=by omega
    subst e;rw[hb];by_cases e:i=k
    ·rw[e,hEr,hHr,fi rfl]
    ·rw[hEi i _ e,hHr,dw e];grind
  ·rcases aV k r with h4 | h4
   ·rw[ha k h4] at hj;have aU:=h.lt k (by omega);rw[hEi k _ (by omega),hHs k j h4,h.pre k j (by omega) hj,hH r j (bX r) hrn (by omega)];grind
   ·have e:k=r:=by omega
    subst e;rw[hb] at hj;rw[hEr];exact hH k j (bX k) hrn hj
  ·rw[hL] at h1;rw[hEi i _ (by omega)];rcases aV j c with h4 | h4
   ·rw[hH i j (by omega) h2 h4,hH r j (bX r) hrn h4];grind
   ·rw[show j=c by omega,hHr];grind
 ·rename_i hp;show acs n (c+1) F l;refine⟨hlen,λk hk=>by have:=h.lt k hk;omega,h.inc,h.one,h.pre,λi j h1 h2 h3=>?_⟩;rcases aV j c with h4 | h4
  ·exact h.low i j h1 h2 h4
  ·rw[show j=c by omega];exact hp3 h1 (by omega)
theorem aca (n:Nat) (F:Nat->Nat->Rat):∀c,acs n c (rr n F c).1 (rr n F c).2
 | 0=>acs.zero n F
 | c+1=>(aca n F c).step
theorem ahE {n m c:Nat} {S:(Nat->Nat->Rat)×List Nat} (hn:S.2.length<=n) {x:Nat->Rat}:Ker n m (abv n S c).1 x↔Ker n m S.1 x:=by
 unfold abv;have hp1:=acn S.1 c (n-S.2.length) S.2.length;have hp2:= @acx S.1 c (n-S.2.length) S.2.length;generalize aA5 S.1 c S.2.length (n-S.2.length)=p at *
 split
 ·rename_i hp;have hr:S.2.length<n:=by omega
  have ay:dk S.1 S.2.length p S.2.length c≠0:=by unfold dk;rw[fi rfl];exact hp2 (by omega)
  have hk:1/dk S.1 S.2.length p S.2.length c≠0:=λe=>by have:=Rat.mul_inv_cancel _ ay;rw[Gy,Gb] at e;rw[e] at this;grind
  exact(ahD hr).trans ((agJ hk).trans (ahC hr hp))
 ·exact Iff.rfl
theorem aeM {n m:Nat} {F:Nat->Nat->Rat} {x:Nat->Rat}:∀c,Ker n m (rr n F c).1 x↔Ker n m F x
 | 0=>Iff.rfl
 | c+1=>(ahE (acG n F c)).trans (aeM c)
def acm (F:Nat->Nat->Rat) (l:List Nat) (j t:Nat):Rat:=if t=j then 1 else if l.idxOf t<l.length then -(F (l.idxOf t) j) else 0
theorem acs.idx {n c:Nat} {F:Nat->Nat->Rat} {l:List Nat} (h:acs n c F l) {k:Nat} (hk:k<l.length):l.idxOf (l.getD k 0)=k:=by
 have hm:l.getD k 0∈l:=Ao hk 0;have h1:l.idxOf (l.getD k 0)<l.length:=G0 hm;have h2:l.getD (l.idxOf (l.getD k 0)) 0=l.getD k 0:=by rw[au,bF h1];exact List.getElem_idxOf h1
 rcases uZ (l.idxOf (l.getD k 0)) k with h3 | h3 | h3
 ·have:=h.inc _ _ h3 hk;omega
 ·exact h3
 ·have:=h.inc _ _ h3 h1;omega
theorem ado {l:List Nat} {t:Nat} (h:l.idxOf t<l.length):l.getD (l.idxOf t) 0=t:=by rw[au,bF h];exact List.getElem_idxOf h
theorem acs.col {n m:Nat} {F:Nat->Nat->Rat} {l:List Nat} (h:acs n m F l) {j:Nat} (hj:j<m) (hn:∀k,k<l.length->l.getD k 0≠j):Ker n m F (acm F l j):=by
 intro i hi;rcases aV i l.length with hil | hil
 ·have aU:=h.lt i hil;have ay:=hn i hil;rw[afa (a:=j) (b:=l.getD i 0) (λe=>ay e.symm) hj aU λt ht h1 h2=>?_]
  ·unfold acm;rw[fi rfl,dw ay,h.idx hil,fi hil,h.one i i hil hi,fi rfl];grind
  ·unfold acm;rw[dw h1];by_cases h3:l.idxOf t<l.length
   ·have e:=ado h3;have:=h.one (l.idxOf t) i h3 hi;rw[e] at this;rw[this,dw (λe'=>h2 (by rw[e',e]))];grind
   ·rw[dw h3];grind
 ·exact acj λt ht=>by rw[h.low i t hil hi ht];grind
theorem age:∀{l l':List Nat},(∀k k',k<k'->k'<l.length->l.getD k 0<l.getD k' 0)->(∀k k',k<k'->k'<l'.length->l'.getD k 0<l'.getD k' 0)->(∀k,k<l.length->∃k',k'<l'.length/\l'.getD k' 0=l.getD k 0)->(∀k,k<l'.length->∃k',k'<l.length/\l.getD k' 0=l'.getD k 0)->l=l'
 | [],[],_,_,_,_=>rfl
 | [],b::l',_,_,_,h=>by obtain⟨k,hk,_⟩:=h 0 (by simp);simp at hk
 | a::l,[],_,_,h,_=>by obtain⟨k,hk,_⟩:=h 0 (by simp);simp at hk
 | a::l,b::l',h1,h2,h3,h4=>by
  have e:a=b:=by
   obtain⟨k,hk,ek⟩:=h3 0 (by simp);obtain⟨k',sF,ek'⟩:=h4 0 (by simp);have ek:(b::l').getD k 0=a:=ek;have ek':(a::l).getD k' 0=b:=ek';rcases gA k with e | e
   ·subst e;exact ek.symm
   ·have:=h2 0 k e hk;rcases gA k' with e' | e'
    ·subst e';exact ek'
    ·have h5:=h1 0 k' e' sF;have h6:(b::l').getD 0 0=b:=rfl;have h7:(a::l).getD 0 0=a:=rfl;omega
  subst e;congr 1;refine age (λk k' hk sF=>h1 (k+1) (k'+1) (by omega) (by simpa using sF)) (λk k' hk sF=>h2 (k+1) (k'+1) (by omega) (by simpa using sF)) (λk hk=>?_) λk hk=>?_
  ·obtain⟨k',sF,e⟩:=h3 (k+1) (by simpa using hk)
   cases k' with
   | zero=>have:=h1 0 (k+1) (by omega) (by simpa using hk);rw[<-e] at this;exact absurd this (yz _)
   | succ k'=>exact⟨k',by simpa using sF,e⟩
  ·obtain⟨k',sF,e⟩:=h4 (k+1) (by simpa using hk)
   cases k' with
   | zero=>have:=h2 0 (k+1) (by omega) (by simpa using hk);rw[<-e] at this;exact absurd this (yz _)
   | succ k'=>exact⟨k',by simpa using sF,e⟩
theorem akN (f:Nat->Nat->Rat) (n:Nat):∀m,apV (λi=>apV (λj=>f i j) m) n=apV (λj=>apV (λi=>f i j) n) m
 | 0=>acj λ_ _=>rfl
 | m+1=>by rw[apV,<-akN f n m,<-acw];rfl
def afB (n m:Nat) (F:Nat->Nat->Rat) (v:Nat->Rat):Prop:=∃y:Nat->Rat,∀j,j<m->v j=apV (λi=>y i*F i j) n
theorem afB.self {n m i:Nat} {F:Nat->Nat->Rat} (h:i<n):afB n m F (F i):=⟨λk=>if k=i then 1 else 0,λj _=>by
 have:=ace (f:=λk=>(if k=i then (1:Rat) else 0)*F k j) h λk _ ay=>by show(if k=i then (1:Rat) else 0)*F k j=0;rw[dw ay];grind
 rw[this,fi rfl];grind⟩
theorem afB.smul {n m:Nat} {F:Nat->Nat->Rat} {v:Nat->Rat} (k:Rat) (h:afB n m F v):afB n m F λj=>v j*k:=by obtain⟨y,hy⟩:=h;refine⟨λi=>k*y i,λj hj=>?_⟩;show v j*k=apV (λi=>k*y i*F i j) n;rw[hy j hj,GF,<-abC];exact uv λi _=>by grind
theorem afB.sub {n m:Nat} {F:Nat->Nat->Rat} {u v:Nat->Rat} (k:Rat) (h:afB n m F u) (h':afB n m F v):afB n m F λj=>u j-k*v j:=by
 obtain⟨y,hy⟩:=h;obtain⟨z,hz⟩:=h';refine⟨λi=>y i + -k*z i,λj hj=>?_⟩;show u j-k*v j=apV (λi=>(y i + -k*z i)*F i j) n;rw[hy j hj,hz j hj];have e:apV (λi=>(y i + -k*z i)*F i j) n=apV (λi=>y i*F i j + -k*(z i*F i j)) n:=uv λi _=>by grind
 rw[e,acw,abC];grind
theorem alS {n m c:Nat} {F0:Nat->Nat->Rat} {S:(Nat->Nat->Rat)×List Nat} (hn:S.2.length<=n) (h:∀i,i<n->afB n m F0 (S.1 i)):∀i,i<n->afB n m F0 ((abv n S c).1 i):=by
 unfold abv;have hp1:=acn S.1 c (n-S.2.length) S.2.length;generalize aA5 S.1 c S.2.length (n-S.2.length)=p at *
 split
 ·rename_i hp;have hr:S.2.length<n:=by omega
  have hG:∀i,i<n->afB n m F0 (dk S.1 S.2.length p i):=λi hi=>by
   unfold dk;split
   ·exact h p hp
   ·split
    ·exact h _ hr
    ·exact h i hi
  generalize dk S.1 S.2.length p=G at *
  generalize S.2.length=r at *
  have hH:∀i,i<n->afB n m F0 (wa G r (1/G r c) i):=λi hi=>by
   by_cases e:i=r
   ·have:=(hG i hi).smul (1/G r c);have e2:wa G r (1/G r c) i=λj=>G i j*(1/G r c):=by funext j;unfold wa;rw[fi e]
    rw[e2];exact this
   ·have e2:wa G r (1/G r c) i=G i:=by funext j;unfold wa;rw[dw e]
    rw[e2];exact hG i hi
  generalize wa G r (1/G r c)=H at *
  intro i hi;show afB n m F0 (abA H r c i);by_cases e:i=r
  ·have e2:abA H r c i=H i:=by funext j;unfold abA;rw[fi e]
   rw[e2];exact hH i hi
  ·have e2:abA H r c i=λj=>H i j-H i c*H r j:=by funext j;unfold abA;rw[dw e]
   rw[e2];exact(hH i hi).sub _ (hH r hr)
 ·exact h
theorem alA (n m:Nat) (F:Nat->Nat->Rat):∀c i,i<n->afB n m F ((rr n F c).1 i)
 | 0=>λ_ hi=>afB.self hi
 | c+1=>alS (acG n F c) (alA n m F c)
def abD (m:Nat) (A:Nat->Nat->Rat) (b:Nat->Rat):Nat->Nat->Rat:=λi j=>if j<m then A i j else b i
theorem alB (m:Nat) (A:Nat->Nat->Rat) (b:Nat->Rat) (i:Nat) (x:Nat->Rat):apV (λj=>abD m A b i j*x j) (m+1)=apV (λj=>A i j*x j) m+b i*x m:=by
 rw[apV];congr 1
 ·exact uv λj hj=>by unfold abD;rw[fi hj]
 ·unfold abD;rw[dw (by omega)]
def akD (m:Nat) (R:Nat->Nat->Rat) (l:List Nat) (t:Nat):Rat:=if l.idxOf t<l.length then R (l.idxOf t) m else 0
theorem amQ {n m:Nat} {A:Nat->Nat->Rat} {b:Nat->Rat} {R:Nat->Nat->Rat} {l:List Nat} (h:acs n (m+1) R l) (hk:∀x,Ker n (m+1) R x->Ker n (m+1) (abD m A b) x) (hm:∀k,k<l.length->l.getD k 0≠m) (i:Nat) (hi:i<n):apV (λj=>A i j*akD m R l j) m=b i:=by
 have h1:=hk _ (h.col (yi m) hm) i hi;rw[alB] at h1;have e1:acm R l m m=1:=by unfold acm;rw[fi rfl]
 have e2:apV (λj=>A i j*acm R l m j) m = -1*apV (λj=>A i j*akD m R l j) m:=by rw[<-abC];refine uv λj hj=>?_;unfold acm akD;rw[dw (by omega)];split<;>grind
 rw[e1,e2] at h1;grind
theorem akO {n m:Nat} {A:Nat->Nat->Rat} {b:Nat->Rat} {k:Nat} (hkl:k<(rr n (abD m A b) (m+1)).2.length) (e:(rr n (abD m A b) (m+1)).2.getD k 0=m):∃y:Nat->Rat,(∀j,j<m->apV (λi=>y i*A i j) n=0)/\apV (λi=>y i*b i) n=1:=by
 have h:=aca n (abD m A b) (m+1);have hkn:k<n:=dz hkl h.len;obtain⟨y,hy⟩:=alA n (m+1) (abD m A b) (m+1) k hkn;refine⟨y,λj hj=>?_,?_⟩
 ·have h1:=hy j (by omega);rw[h.pre k j hkl (by omega)] at h1;rw[h1];exact uv λi _=>by unfold abD;rw[fi hj]
 ·have h1:=hy m (yi m);have h2:=h.one k k hkl hkn;rw[e,fi rfl] at h2;rw[h2] at h1;rw[h1];exact uv λi _=>by unfold abD;rw[dw (by omega)]
def skip (i a:Nat):Nat:=if a<i then a else a+1
def setRow (F:Nat->Nat->Rat) (r:Nat) (v:Nat->Rat):Nat->Nat->Rat:=λi=>if i=r then v else F i
structure acM (n:Nat) (D:(Nat->Nat->Rat)->Rat):Prop where
 congr:∀F G,(∀i j,i<n->j<n->F i j=G i j)->D F=D G
 swap:∀F a b,a<n->b<n->a≠b->D (dk F a b) = -D F
 scale:∀F r k,r<n->D (wa F r k)=k*D F
 add:∀F a b k,a<n->b<n->a≠b->D (setRow F a λj=>F a j+k*F b j)=D F
structure Holds {α:Type} (n m:Nat) (out:List Nat) (ai:List (List α)) (F:Nat->Nat->α):Prop where
 len:out.length=n
 lt:∀i,i<n->out.getD i 0<ai.length
 row:∀i,i<n->ai.getD (out.getD i 0) []=aA m (F i)
 inj:∀i j,i<n->j<n->out.getD i 0=out.getD j 0->i=j
section
variable {α:Type} {n m:Nat} {out:List Nat} {ai:List (List α)} {F G:Nat->Nat->α}
theorem Holds.congr (h:Holds n m out ai F) (e:∀i j,i<n->j<m->F i j=G i j):Holds n m out ai G:=⟨h.len,h.lt,λi hi=>(h.row i hi).trans (bE λj hj=>e i j hi hj),h.inj⟩
theorem Holds.cell (d:α) (h:Holds n m out ai F) {i j:Nat} (hi:i<n) (hj:j<m):(ai.getD (out.getD i 0) []).getD j d=F i j:=by rw[h.row i hi,fW hj]
theorem Holds.rowLen (h:Holds n m out ai F) {i:Nat} (hi:i<n):(ai.getD (out.getD i 0) []).length=m:=by rw[h.row i hi,mX]
theorem Holds.set (h:Holds n m out ai F) {r:Nat} (hr:r<n) {xs:List α} {f:Nat->α} (hx:xs=aA m f):Holds n m out (ai.set (out.getD r 0) xs) (λi=>if i=r then f else F i):=
 ⟨h.len,λi hi=>by rw[px];exact h.lt i hi,λi hi=>by
  rw[b8 _ _ _ _ _ (h.lt r hr)];by_cases e:i=r
  ·subst e;rw[fi rfl,fi rfl,hx]
  ·rw[dw λe'=>e (h.inj _ _ hi hr e'),dw e];exact h.row i hi,h.inj⟩
theorem Holds.amw (h:Holds n m out ai F) {r c:Nat} (hr:r<n) (hc:c<m) (x:α):Holds n m out (ai.set (out.getD r 0) ((ai.getD (out.getD r 0) []).set c x)) (λi j=>if i=r/\j=c then x else F i j):=
 (h.set hr (xs:=(ai.getD (out.getD r 0) []).set c x) (f:=λj=>if j=c then x else F r j) (by rw[h.row r hr];exact mY hc)).congr λi j _ _=>by
  by_cases e:i=r
  ·subst e;rw[fi rfl];by_cases e2:j=c
   ·rw[fi e2,fi ⟨rfl,e2⟩]
   ·rw[dw e2,dw λk=>e2 k.2]
  ·rw[dw e,dw λk=>e k.1]
theorem Holds.swap (h:Holds n m out ai F) {a b:Nat} (ha:a<n) (hb:b<n):Holds n m ((out.set a (out.getD b 0)).set b (out.getD a 0)) ai (λi=>if i=a then F b else if i=b then F a else F i):=by
 have la:a<out.length:=by rw[h.len];exact ha
 have lb:b<(out.set a (out.getD b 0)).length:=by rw[px,h.len];exact hb
 have e:∀i,((out.set a (out.getD b 0)).set b (out.getD a 0)).getD i 0=out.getD (if i=b then a else if i=a then b else i) 0:=λi=>by
  rw[b8 _ _ _ _ _ lb];by_cases e1:i=b
  ·rw[fi e1,fi e1]
  ·rw[dw e1,dw e1,b8 _ _ _ _ _ la];by_cases e2:i=a
   ·rw[fi e2,fi e2]
   ·rw[dw e2,dw e2]
 have lt:∀i,i<n->(if i=b then a else if i=a then b else i)<n:=λi hi=>by split;exact ha;split;exact hb;exact hi
 refine⟨by rw[px,px];exact h.len,λi hi=>by rw[e];exact h.lt _ (lt i hi),λi hi=>?_,λi j hi hj hij=>?_⟩
 ·rw[e,h.row _ (lt i hi)];show _=aA m (if i=a then F b else if i=b then F a else F i);by_cases e1:i=b
  ·rw[fi e1];by_cases e2:i=a
   ·rw[fi e2,<-e2,e1]
   ·rw[dw e2,fi e1]
  ·rw[dw e1];by_cases e2:i=a
   ·rw[fi e2,fi e2]
   ·rw[dw e2,dw e2,dw e1]
 ·rw[e,e] at hij;have:=h.inj _ _ (lt i hi) (lt j hj) hij;split at this<;>split at this<;>(try split at this)<;>(try split at this)<;>omega
end
section
variable {n m:Nat} {out:List Nat} {ai:List (List Rat)} {F:Nat->Nat->Rat}
theorem Holds.rows (h:Holds n m out ai F):out.map (λp=>ai.getD p [])=aG n m F:=vt [] (by rw[uY];exact h.len) λi hi=>by rw[getD_map (by rw[h.len];exact hi) 0];exact h.row i hi
theorem Holds.init {M:List (List Rat)} (h:∀i,i<M.length->(M.getD i []).length=m):Holds M.length m (aA M.length λt=>if t<M.length then t+1 else 0) ([]::M) (el M):=
 ⟨mX _ _,λi hi=>by rw[fW hi,fi hi,tT];omega,λi hi=>by
  rw[fW hi,fi hi,yT];have:=ad3 (M.getD i []) 0;rw[h i hi] at this;exact this.symm,λi j hi hj e=>by
  rw[fW hi,fW hj,fi hi,fi hj] at e;omega⟩
end
def abY (M:List (List Rat)):Nat:=(M.getD 0 []).length
def ab2 (M:List (List Rat)):(Nat->Nat->Rat)×List Nat:=rr M.length (el M) (abY M)
def K5 (l:List Nat):List Int:=l.map Int.ofNat
theorem adq (l:List Nat):(K5 l).length=l.length:=uY ..
theorem afF {l:List Nat} {i:Nat} (h:i<l.length):(K5 l).getD i 0=((l.getD i 0:Nat):Int):=getD_map h 0 0
theorem ahH (l:List Nat) (x:Nat):K5 (l++[x])=K5 l++[(x:Int)]:=by unfold K5;rw[CW];rfl
def aaf (M:List (List Rat)):List (List Rat):=aG (ab2 M).2.length (abY M) (ab2 M).1
def abp (M:List (List Rat)):List Int:=K5 (ab2 M).2
def acR (l:List Nat) (n:Nat):List Nat:=(List.range n).filter λc=> !decide (c∈l)
theorem agh (l:List Nat) (n:Nat):acR l (n+1)=if n∈l then acR l n else acR l n++[n]:=by
 unfold acR;rw[GY,List.filter_append];by_cases h:n∈l
 ·rw[fi h];simp[h]
 ·rw[dw h];simp[h]
def abo (F:Nat->Nat->Rat) (l:List Nat) (n k:Nat):List (List Rat):=(acR l k).map λc=>aA n (acm F l c)
theorem aeS (F:Nat->Nat->Rat) (l:List Nat) (n k:Nat):abo F l n (k+1)=if k∈l then abo F l n k else abo F l n k++[aA n (acm F l k)]:=by
 unfold abo;rw[agh];by_cases h:k∈l
 ·rw[fi h,fi h]
 ·rw[dw h,dw h];simp
def acN (l:List Nat) (f g:Nat->Rat):Nat->Nat->Rat
 | 0=>g
 | i+1=>λt=>if t=l.getD i 0 then f i else acN l f g i t
theorem aiw {l:List Nat} (hi:∀i j,i<j->j<l.length->l.getD i 0≠l.getD j 0) (f g:Nat->Rat) (t:Nat):acN l f g l.length t=if l.idxOf t<l.length then f (l.idxOf t) else g t:=by
 have key:∀k,k<=l.length->acN l f g k t=if l.idxOf t<k then f (l.idxOf t) else g t:=by
  intro k;induction k with
  | zero=>intro _;rw[dw (nc _)];rfl
  | succ k ih=>
   intro hk;show(if t=l.getD k 0 then f k else acN l f g k t)=_;by_cases e:t=l.getD k 0
   ·have hx:l.idxOf t=k:=by
     have hm:t∈l:=by rw[e];exact Ao (by omega) 0
     have h1:l.idxOf t<l.length:=G0 hm;have h2:=ado h1;rcases uZ (l.idxOf t) k with h | h | h
     ·exact absurd (h2.trans e) (hi _ _ h (by omega))
     ·exact h
     ·exact absurd (e.symm.trans h2.symm) (hi _ _ h h1)
    rw[fi e,hx,fi (yi k)]
   ·rw[dw e,ih (by omega)];have ay:l.idxOf t≠k:=λh=>e (by
     have:=ado (l:=l) (t:=t) (by omega);rw[h] at this;exact this.symm)
    by_cases h:l.idxOf t<k
    ·rw[fi h,fi (by omega)]
    ·rw[dw h,dw (by omega)]
 exact key _ (bX _)
end Go.Proofs.YtnciifikfkpanaaGreatDoor.AM
