/- The base of the proof: contracts of functions, the engine that shows them, and mathematics. -/
import Derived.Test.YtlijkeolpmgioaaGreatDoorBd9
set_option maxRecDepth 100000
set_option linter.unusedVariables false
set_option linter.unusedSimpArgs false
set_option maxHeartbeats 1000000
namespace Go.Proofs.YtlijkeolpmgioaaGreatDoor.AM
open Go.RowKit
theorem aq.aYa {ok:Nat->Prop} {w:World} {β:Bm} {x:Nat} {v:Value} (h:aq ok w β (.k .nat x) v):v=nV x:=by obtain⟨c,hc,hv⟩:=h;have hc:c=iD x:=hc;subst hc;exact hv
theorem aq.Jt {ok:Nat->Prop} {w:World} {β:Bm} (x:Nat):aq ok w β (.k .nat x) (nV x):=⟨iD x,rfl,rfl⟩
theorem aq.xE {ok:Nat->Prop} {w:World} {β:Bm} {x:Nat} {v:Value} (h:aq ok w β (.k .rn x) v):bJ x v w:=by obtain⟨c,⟨u,rfl,h1⟩,hv⟩:=h;obtain⟨A,k,rfl⟩:=h1.form;rw[hv];exact h1
theorem aq.VB {ok:Nat->Prop} {w:World} {β:Bm} {x:Nat} {v:Value} (h:bJ x v w):aq ok w β (.k .rn x) v:=⟨[v],⟨v,rfl,h⟩,rfl⟩
theorem FD {f:FuncId} {a:Array Value} {w:World} {x:Nat} (h:Calls Tryz.prog f a w (cg (nV x) w)):Calls Tryz.prog f a w (Gv (.k .nat x) w):=Calls.mono h λe w' ⟨h1,h2⟩=>⟨_,h1,h2,.Jt x⟩
theorem VC {f:FuncId} {a:Array Value} {w:World} {x:Int} (h:Calls Tryz.prog f a w (cg (.int .i64 x) w)):Calls Tryz.prog f a w (Gv (.k (.int .i64) x) w):=Calls.mono h λe w' ⟨h1,h2⟩=>⟨_,h1,h2,.mkInt _ x⟩
theorem xF {f:FuncId} {a:Array Value} {w:World} {x:Nat} (h:Calls Tryz.prog f a w (cA (bJ x) w)):Calls Tryz.prog f a w (Gv (.k .rn x) w):=Calls.mono h λe w' ⟨v,h1,h2,h3⟩=>⟨v,h1,h3,.VB h2⟩
theorem ph {ok:Nat->Prop} {w:World} {β:Bm} {a b:AV} {u v:Value} (h1:aq ok w β a u) (h2:aq ok w β b v):aq ok w β (.eX (.cons a (.cons b .nil))) (.tuple #[u,v]):=by obtain⟨c1,a1,e1⟩:=h1;obtain⟨c2,a2,e2⟩:=h2;exact⟨[.tuple #[u,v]],⟨[u,v],rfl,c1,[v],a1,⟨c2,[],a2,rfl,by rw[e2];rfl⟩,by rw[e1];rfl⟩,rfl⟩
theorem FE {ok:Nat->Prop} {w:World} {β:Bm} {a b c:AV} {u v x:Value} (h1:aq ok w β a u) (h2:aq ok w β b v) (h3:aq ok w β c x):aq ok w β (.eX (.cons a (.cons b (.cons c .nil)))) (.tuple #[u,v,x]):=by obtain⟨c1,a1,e1⟩:=h1;obtain⟨c2,a2,e2⟩:=h2;obtain⟨c3,a3,e3⟩:=h3;exact⟨[.tuple #[u,v,x]],⟨[u,v,x],rfl,c1,[v,x],a1,⟨c2,[x],a2,⟨c3,[],a3,rfl,by rw[e3];rfl⟩,by rw[e2];rfl⟩,by rw[e1];rfl⟩,rfl⟩
def BN:Nat:=130000000000
theorem BV {j:Nat} (h:130000000000<=j):max BN BN<=j:=by unfold BN;omega
abbrev N1 (x:Nat):Option Prop:=some (Sm BN x)
abbrev N2 (x y:Nat):Option Prop:=some (Sm BN x/\Sm BN y)
abbrev T2 (a b:AV):AV:=.eX (.cons a (.cons b .nil))
abbrev T3 (a b c:AV):AV:=.eX (.cons a (.cons b (.cons c .nil)))
def Nf:az:=⟨102,false,on1 (.int .u64) (λn=>some (0<=n/\n<18446744073709551616)) λn=>.k .nat (Int.toNat n)⟩
theorem xG:aqJ (cfg []) Nf:=nB (enters_of Tryz.func102 (by kernel_rfl) rfl) (λ_=>rfl) λF n u w hg ht hu=>by obtain rfl:=hu.int;obtain⟨m,rfl⟩:=Gm hg.1;have h2:((m:Nat):Int)<18446744073709551616:=hg.2;exact FD (H5 m (by unfold B64;omega) w)
def VD:az:=⟨123,false,on2 .nat .nat N2 λx y=>.k .nat (x+y:Nat)⟩
theorem Pv:aqJ (cfg []) VD:=iN (enters_of Tryz.func123 (by kernel_rfl) rfl) (λ_ _=>rfl) λF x y u v w hg ht hu hv=>by obtain rfl:=hu.aYa;obtain rfl:=hv.aYa;exact FD (aex hg.1 hg.2 w (BV (by omega)))
def Ju:az:=⟨112,false,on2 .nat .nat N2 λx y=>.k .nat (x*y:Nat)⟩
theorem zR:aqJ (cfg []) Ju:=iN (enters_of Tryz.func112 (by kernel_rfl) rfl) (λ_ _=>rfl) λF x y u v w hg ht hu hv=>by obtain rfl:=hu.aYa;obtain rfl:=hv.aYa;exact FD (aey hg.1 hg.2 w (BV (by omega)))
def Jv:az:=⟨115,false,on2 .nat .nat N2 λx y=>.k (.int .i64) (bG x y)⟩
theorem zS:aqJ (cfg []) Jv:=iN (enters_of Tryz.func115 (by kernel_rfl) rfl) (λ_ _=>rfl) λF x y u v w hg ht hu hv=>by obtain rfl:=hu.aYa;obtain rfl:=hv.aYa;exact VC (aez hg.1 hg.2 w (BV (by omega)))
def vm:az:=⟨93,false,on1 .nat N1 λx=>.k (.int .i64) ((bl x:Nat):Int)⟩
theorem qS:aqJ (cfg []) vm:=nB (enters_of Tryz.func93 (by kernel_rfl) rfl) (λ_=>rfl) λF x u w hg ht hu=>by obtain rfl:=hu.aYa;exact VC (acq hg w (by unfold BN;omega))
def VE:az:=⟨124,false,on2 .nat .nat N2 λx y=>T2 (.k .nat (x-y:Nat)) (.k .bool (decide ((y:Nat)<=x)))⟩
theorem Pw:aqJ (cfg []) VE:=iN (enters_of Tryz.func124 (by kernel_rfl) rfl) (λ_ _=>rfl) λF x y u v w hg ht hu hv=>by
 obtain rfl:=hu.aYa;obtain rfl:=hv.aYa;by_cases h:(y:Nat)<=x
 ·exact Calls.mono (aeA hg.1 hg.2 h w (BV (by omega))) λe w' ⟨h1,h2⟩=>⟨_,h1,h2,ph (.Jt _) (by rw[kx h];exact .dN _)⟩
 ·exact Calls.mono (UO hg.1 hg.2 (Nat.lt_of_not_le h) w (BV (by omega))) λe w' ⟨h1,h2⟩=>⟨_,h1,h2,ph (by rw[Nat.sub_eq_zero_of_le (Nat.le_of_not_le h)];exact .Jt _) (by rw[eJ h];exact .dN _)⟩
def Jw:az:=⟨125,false,on2 .nat .nat N2 λx y=>T3 (.k .nat (x/y:Nat)) (.k .nat (if (y:Nat)=0 then 0 else x%y)) (.k .bool (!decide ((y:Nat)=0)))⟩
theorem zT:aqJ (cfg []) Jw:=iN (enters_of Tryz.func125 (by kernel_rfl) rfl) (λ_ _=>rfl) λF x y u v w hg ht hu hv=>by
 obtain rfl:=hu.aYa;obtain rfl:=hv.aYa;by_cases h:(y:Nat)=0
 ·subst h;exact Calls.mono (div_zero x w) λe w' ⟨h1,h2⟩=>⟨_,h1,h2,FE (by rw[Nat.div_zero];exact .Jt _) (.Jt _) (.dN _)⟩
 ·rw[aI h];exact Calls.mono (cdiv hg.1 hg.2 h w (BV (by omega))) λe w' ⟨h1,h2⟩=>⟨_,h1,h2,FE (.Jt _) (.Jt _) (by rw[eJ h];exact .dN _)⟩
def FF:az:=⟨126,false,on1 .nat (λ_=>none) λx=>T2 (.k (.int .u64) (if (x:Nat)<18446744073709551616 then ((x:Nat):Int) else 0)) (.k .bool (decide ((x:Nat)<18446744073709551616)))⟩
theorem FG:aqJ (cfg []) FF:=nB (enters_of Tryz.func126 (by kernel_rfl) rfl) (λ_=>rfl) λF x u w hg ht hu=>by
 obtain rfl:=hu.aYa;by_cases h:(x:Nat)<18446744073709551616
 ·have hx:(x:Nat)<B64:=h;rw[aV h];exact Calls.mono (Oh x hx w) λe w' ⟨h1,h2⟩=>⟨_,h1,h2,ph (.mkInt _ _) (by rw[kx h];exact .dN _)⟩
 ·have hx:B64<=(x:Nat):=Lm h;rw[aI h];exact Calls.mono (Oi x hx w) λe w' ⟨h1,h2⟩=>⟨_,h1,h2,ph (.mkInt _ _) (by rw[eJ h];exact .dN _)⟩
def VF:az:=⟨127,false,on2 .nat .nat (λx y=>some ((x:Nat)≠0/\(y:Nat)≠0/\Sm BN x/\Sm BN y)) λx y=>.k .nat (Nat.gcd x y)⟩
theorem Px:aqJ (cfg []) VF:=iN (enters_of Tryz.func127 (by kernel_rfl) rfl) (λ_ _=>rfl) λF x y u v w hg ht hu hv=>by obtain rfl:=hu.aYa;obtain rfl:=hv.aYa;obtain⟨h1,h2,h3,h4⟩:=hg;exact FD (BL x y (yc h1) (yc h2) (by unfold Sm BN at h3;omega) (by unfold Sm BN at h4;omega) w ht)
def VG:az:=⟨72,false,on2 .rn .rn N2 λx y=>.k .rn (x+y:Nat)⟩
theorem Py:aqJ (cfg []) VG:=iN (enters_of Tryz.func72 (by kernel_rfl) rfl) (λ_ _=>rfl) λF x y u v w hg ht hu hv=>xF (ac3 hg.1 hg.2 w hu.xE hv.xE (BV (by omega)))
def VH:az:=⟨74,false,on2 .rn .rn (λx y=>some (Sm BN x/\(y:Nat)<=x)) λx y=>.k .rn (x-y:Nat)⟩
theorem Pz:aqJ (cfg []) VH:=iN (enters_of Tryz.func74 (by kernel_rfl) rfl) (λ_ _=>rfl) λF x y u v w hg ht hu hv=>xF (ac4 hg.1 hg.2 w hu.xE hv.xE (by unfold BN;omega))
def VI:az:=⟨38,false,on2 .rn .rn N2 λx y=>.k .rn (x*y:Nat)⟩
theorem PA:aqJ (cfg []) VI:=iN (enters_of Tryz.func38 (by kernel_rfl) rfl) (λ_ _=>rfl) λF x y u v w hg ht hu hv=>xF (ac5 hg.1 hg.2 w hu.xE hv.xE (BV (by omega)))
def Jx:az:=⟨73,false,on2 .rn .rn N2 λx y=>.k (.int .i64) (bG x y)⟩
theorem zU:aqJ (cfg []) Jx:=iN (enters_of Tryz.func73 (by kernel_rfl) rfl) (λ_ _=>rfl) λF x y u v w hg ht hu hv=>VC (ac6 hg.1 hg.2 w hu.xE hv.xE (BV (by omega)))
def aa4:az:=⟨32,false,on1 (.int .u64) (λn=>some (0<=n/\n<18446744073709551616)) λn=>.k .rn (Int.toNat n)⟩
theorem VJ:aqJ (cfg []) aa4:=nB (enters_of Tryz.func32 (by kernel_rfl) rfl) (λ_=>rfl) λF n u w hg ht hu=>by obtain rfl:=hu.int;obtain⟨m,rfl⟩:=Gm hg.1;have h2:((m:Nat):Int)<18446744073709551616:=hg.2;exact xF (xk m (by unfold B64;omega) w)
def VK:az:=⟨71,false,on2 .rn .rn (λx y=>some (Sm BN x/\Sm BN y/\(y:Nat)≠0)) λx y=>T2 (.k .rn (x/y:Nat)) (.k .rn (x%y:Nat))⟩
theorem PB:aqJ (cfg []) VK:=iN (enters_of Tryz.func71 (by kernel_rfl) rfl) (λ_ _=>rfl) λF x y u v w hg ht hu hv=>by obtain⟨h1,h2,h3⟩:=hg;unfold Sm BN at h1 h2;exact Calls.mono (FC x y u v w hu.xE hv.xE (by omega) (by omega) h3) λ_ _ ⟨p,q,h1,h2,h3,h4⟩=>⟨_,h1,h4,ph (.VB h2) (.VB h3)⟩
def VM:az:=⟨61,false,on1 .rn N1 λx=>.k .nat (x:Nat)⟩
theorem PC:aqJ (cfg []) VM:=nB (enters_of Tryz.func61 (by kernel_rfl) rfl) (λ_=>rfl) λF x u w hg ht hu=>by have hg:Sm BN x:=hg;exact FD (Bz x (by unfold Sm BN at hg;omega) u w hu.xE)
def BZ:Nat:=64000000000
noncomputable def LN:List az:=Nf::Jv::vm::[]
theorem xH:bd LN:=⟨xG,zS,qS,trivial⟩
def a4u:CF
 | [.k .bool b,.k .nat n]=>some (some (Sm BN n),.k .z (bW b n),[])
 | _=>none
def sj:az:=⟨60,false,a4u⟩
def PD (b:Bool) (n:Nat):bk:=⟨λkey_=>match key_ with | 1=>7 | _=>0,nL,nR,nU⟩
def BW (b:Bool) (n:Nat):Prop:=bif b then Sm BN n/\(decide ((0:Int)<(↑(bl n):Int))=true->n≠0)/\bW (decide ((0:Int)<(↑(bl n):Int))) n=bW b n else (false=true->n≠(0 :
 Nat))/\bW false n=bW b n
theorem Jy (b:Bool) (n:Nat):aw LN [] (PD b n) Tryz.f60 (.k .z (bW b n)) [.k .bool b,.k .nat n]=BW b n:=by kernel_rfl
theorem Jz (b:Bool) (n:Nat) (hg:Sm BN n) (hf:cJ [.k .bool b,.k .nat n]):BW b n:=by
 unfold BW;refine nC (λh=>?_) λh=>?_
 ·subst h;refine⟨hg,λh' e=>?_,?_⟩
  ·have:=(fl n).1 (AD h');omega
  ·rcases iS n with e | e
   ·subst e;rw[gf];rfl
   ·rw[kx ((fl n).2 e)]
 ·subst h;exact⟨λh=>(by cases h),rfl⟩
theorem nG:aqJ (cfg []) sj:=cf xH bp Tryz.func60 λa _ _ _ hc hg hf=>by change a4u a=_ at hc;unfold a4u at hc;split at hc<;>cases hc;cases aY (Jy _ _) (Jz _ _ hg hf);exact⟨rfl,by kernel_rfl,_,by assumption⟩
def a5g:CF
 | [.k .z x]=>some (none,.k .nat x.natAbs,[])
 | _=>none
def JA:az:=⟨92,false,a5g⟩
def VN (x:Int):bk:=⟨nU,nL,nR,nU⟩
def VO (x:Int):Prop:=x.natAbs=x.natAbs
theorem PE (x:Int):aw LN [] (VN x) Tryz.f92 (.k .nat x.natAbs) [.k .z x]=VO x:=by kernel_rfl
theorem PF (x:Int) (hf:cJ [.k .z x]):VO x:=by rfl
theorem zV:aqJ (cfg []) JA:=cf xH bp Tryz.func92 λa _ _ _ hc hg hf=>by change a5g a=_ at hc;unfold a5g at hc;split at hc<;>cases hc;cases aY (PE _) (PF _ hf);exact⟨rfl,by kernel_rfl,_,by assumption⟩
def BX:CF
 | [.k .z x]=>some (some (Sm BN x.natAbs),.k (.int .i64) x.sign,[])
 | _=>none
def vn:az:=⟨84,false,BX⟩
def PG (x:Int):bk:=⟨nU,nL,nR,nU⟩
def BY (x:Int):Prop:=bif decide (x<0) then (-1:Int)=x.sign else Sm BN x.natAbs/\bif decide ((0:Int)<(↑(bl x.natAbs):Int)) then (1:Int)=x.sign else (0:Int)=x.sign
theorem JB (x:Int):aw LN [] (PG x) Tryz.f84 (.k (.int .i64) x.sign) [.k .z x]=BY x:=by kernel_rfl
theorem JC (x:Int) (hg:Sm BN x.natAbs):BY x:=by
 unfold BY;refine aH (λh=>(uZ h).symm) λh=>⟨hg,aH (λh2=>?_) λh2=>?_⟩
 ·have:=(fl _).1 h2;exact(xX (by omega)).symm
 ·have h3:¬0<x.natAbs:=λh3=>h2 ((fl _).2 h3);have:x=0:=by omega
  subst this;rfl
theorem qT:aqJ (cfg []) vn:=cf xH bp Tryz.func84 λa _ _ _ hc hg hf=>by change BX a=_ at hc;unfold BX at hc;split at hc<;>cases hc;cases aY (JB _) (JC _ hg);exact⟨rfl,by kernel_rfl,_,by assumption⟩
def a5h:CF
 | [.k .z x,.k .z y]=>some (some (Sm BN x.natAbs/\Sm BN y.natAbs),.k (.int .i64) (dS x y),[])
 | _=>none
def VP:az:=⟨87,false,a5h⟩
def VQ (x y:Int):bk:=⟨nU,nL,nR,nU⟩
def JD (x y:Int):Prop:=bif decide (x<0) then bif decide (y<0) then (Sm BN y.natAbs/\Sm BN x.natAbs)/\bG y.natAbs x.natAbs=dS x y else bif decide (x<0) then
 (-1:Int)=dS x y else bif decide (y<0) then (1:Int)=dS x y else (Sm BN x.natAbs/\Sm BN y.natAbs)/\bG x.natAbs y.natAbs=dS x y else bif decide
 (x<0) then (-1:Int)=dS x y else bif decide (y<0) then (1:Int)=dS x y else (Sm BN x.natAbs/\Sm BN y.natAbs)/\bG x.natAbs y.natAbs =
 dS x y
theorem PH (x y:Int):aw LN [] (VQ x y) Tryz.f87 (.k (.int .i64) (dS x y)) [.k .z x,.k .z y]=JD x y:=by kernel_rfl
theorem PI (x y:Int) (hg:Sm BN x.natAbs/\Sm BN y.natAbs):JD x y:=by unfold JD;obtain⟨h1,h2⟩:=hg;refine aH (λhx=>aH (λhy=>⟨⟨h2,h1⟩,Ym hx hy⟩) λhy=>aH (λ_=>Yn hx hy) λh=>absurd hx h) λhx=>aH (λh=>absurd h hx) λ_=>aH (λhy=>Yo hx hy) λhy=>⟨⟨h1,h2⟩,Yl hx hy⟩
theorem PJ:aqJ (cfg []) VP:=cf xH bp Tryz.func87 λa _ _ _ hc hg hf=>by change a5h a=_ at hc;unfold a5h at hc;split at hc<;>cases hc;cases aY (PH _ _) (PI _ _ hg);exact⟨rfl,by kernel_rfl,_,by assumption⟩
def a5i:CF
 | [.k (.int .i64) n]=>some (some (ax n),.k .z n,[])
 | _=>none
def VR:az:=⟨76,false,a5i⟩
def VS (n:Int):bk:=⟨nU,nL,nR,nU⟩
def JE (n:Int):Prop:=
 let t1:=(0:Int)-IntKind.u64.wrap n;
 bif decide (n<0) then ((0:Int)<=IntKind.u64.wrap t1/\IntKind.u64.wrap t1<(18446744073709551616:Int))/\(true=true->(IntKind.u64.wrap t1).toNat≠(0 :
 Nat))/\bW true (IntKind.u64.wrap t1).toNat=n else ((0:Int)<=IntKind.u64.wrap n/\IntKind.u64.wrap n<(18446744073709551616:Int))/\(false=true ->
 (IntKind.u64.wrap n).toNat≠0)/\bW false (IntKind.u64.wrap n).toNat=n
theorem PK (n:Int):aw LN [] (VS n) Tryz.f76 (.k .z n) [.k (.int .i64) n]=JE n:=by kernel_rfl
theorem PL (n:Int) (hg:ax n):JE n:=by
 unfold JE;have h1 : -9223372036854775808<=n:=hg.1;have h2:n<=9223372036854775807:=hg.2;refine aH (λh=>?_) λh=>?_
 ·have e:IntKind.u64.wrap ((0:Int)-IntKind.u64.wrap n) = -n:=by simp[IntKind.wrap,IntKind.signed,IntKind.bits];omega
  rw[e];refine⟨⟨by omega,by omega⟩,λ_=>by omega,?_⟩;show -((Int.toNat (-n):Nat):Int)=n;omega
 ·have e:IntKind.u64.wrap n=n:=by simp[IntKind.wrap,IntKind.signed,IntKind.bits];omega
  rw[e];refine⟨⟨by omega,by omega⟩,λh=>by (cases h),?_⟩;show((Int.toNat n:Nat):Int)=n;omega
theorem PM:aqJ (cfg []) VR:=cf xH bp Tryz.func76 λa _ _ _ hc hg hf=>by change a5i a=_ at hc;unfold a5i at hc;split at hc<;>cases hc;cases aY (PK _) (PL _ hg);exact⟨rfl,by kernel_rfl,_,by assumption⟩
noncomputable def VT:List az:=sj::Nf::VD::Ju::Jv::vm::VE::Jw::FF::VF::[]
theorem vo:bd VT:=⟨nG,xG,Pv,zR,zS,qS,Pw,zT,FG,Px,trivial⟩
def JF:CF
 | [.k .z x]=>(λ(x:Int)=>some (some (Sm BN x.natAbs),.k .z (-x:Int),[])) x
 | _=>none
def JG:az:=⟨90,false,JF⟩
def VU (x:Int):bk:=⟨nU,nL,nR,nU⟩
def JH (x:Int):Prop:=Sm BN x.natAbs/\bW (!decide (x<0)) x.natAbs = -x
theorem PN (x:Int):aw VT [] (VU x) Tryz.f90 (.k .z (-x:Int)) [.k .z x]=JH x:=by kernel_rfl
theorem PO (x:Int) (hg:Sm BN x.natAbs):JH x:=by
 unfold JH;refine⟨hg,?_⟩;unfold bW;by_cases hx:x<0
 ·rw[kx hx];show((x.natAbs:Nat):Int) = -x;omega
 ·rw[eJ hx];show -((x.natAbs:Nat):Int) = -x;omega
theorem zW:aqJ (cfg []) JG:=cf vo bp Tryz.func90 λa _ _ _ hc hg hf=>by change JF a=_ at hc;unfold JF at hc;split at hc<;>cases hc;cases aY (PN _) (PO _ hg);exact⟨rfl,by kernel_rfl,_,by assumption⟩
def JI:CF
 | [.k .z x,.k .z y]=>some (some (Sm BZ x.natAbs/\Sm BZ y.natAbs),.k .z (x+y:Int),[])
 | _=>none
def VV:az:=⟨107,false,JI⟩
def VW (x y:Int):bk:=⟨λkey_=>match key_ with | 2=>7 | _=>0,nL,nR,nU⟩
def JJ (x y:Int):Prop:=bif decide (x<0) == decide (y<0) then (Sm BN x.natAbs/\Sm BN y.natAbs)/\Sm BN (x.natAbs+y.natAbs)/\bW (decide (x<0)) (x.natAbs +
 y.natAbs)=x+y else (Sm BN x.natAbs/\Sm BN y.natAbs)/\bif decide (y.natAbs<=x.natAbs) then Sm BN (x.natAbs-y.natAbs)/\bW (decide (x<0)) (x.natAbs -
 y.natAbs)=x+y else (Sm BN y.natAbs/\Sm BN x.natAbs)/\Sm BN (y.natAbs-x.natAbs)/\bW (decide (y<0)) (y.natAbs-x.natAbs)=x+y
theorem PR (x y:Int):aw VT [] (VW x y) Tryz.f107 (.k .z (x+y:Int)) [.k .z x,.k .z y]=JJ x y:=by kernel_rfl
theorem PS (x y:Int) (hg:Sm BZ x.natAbs/\Sm BZ y.natAbs):JJ x y:=by
 unfold JJ;obtain⟨h1,h2⟩:=hg;have b1:Sm BN x.natAbs:=h1.le (by unfold BZ BN;omega);have b2:Sm BN y.natAbs:=h2.le (by unfold BZ BN;omega);refine nC (λh=>⟨⟨b1,b2⟩,(h1.add h2).le (by unfold BZ BN;omega),?_⟩) λh=>⟨⟨b1,b2⟩,aH (λh'=>⟨b1.sub _,?_⟩) λh'=>⟨⟨b2,b1⟩,b2.sub _,?_⟩⟩
 all_goals unfold bW;by_cases hx:x<0<;>by_cases hy:y<0<;>simp[hx,hy] at h ⊢<;>omega
theorem PT:aqJ (cfg []) VV:=cf vo bp Tryz.func107 λa _ _ _ hc hg hf=>by change JI a=_ at hc;unfold JI at hc;split at hc<;>cases hc;cases aY (PR _ _) (PS _ _ hg);exact⟨rfl,by kernel_rfl,_,by assumption⟩
def JK:CF
 | [.k .z x,.k .z y]=>some (some (Sm BZ x.natAbs/\Sm BZ y.natAbs),.k .z (x*y:Int),[])
 | _=>none
def JL:az:=⟨113,false,JK⟩
def VX (x y:Int):bk:=⟨λkey_=>match key_ with | 1=>10 | _=>0,nL,nR,nU⟩
def JM (x y:Int):Prop:=(Sm BN x.natAbs/\Sm BN y.natAbs)/\Sm BN (x.natAbs*y.natAbs)/\bW (!decide (x<0) == decide (y<0)) (x.natAbs*y.natAbs)=x*y
theorem PU (x y:Int):aw VT [] (VX x y) Tryz.f113 (.k .z (x*y:Int)) [.k .z x,.k .z y]=JM x y:=by kernel_rfl
theorem PV (x y:Int) (hg:Sm BZ x.natAbs/\Sm BZ y.natAbs):JM x y:=by unfold JM;obtain⟨h1,h2⟩:=hg;exact⟨⟨h1.le (by unfold BZ BN;omega),h2.le (by unfold BZ BN;omega)⟩,(h1.mul h2).le (by unfold BZ BN;omega),vL rfl rfl⟩
theorem zX:aqJ (cfg []) JL:=cf vo bp Tryz.func113 λa _ _ _ hc hg hf=>by change JK a=_ at hc;unfold JK at hc;split at hc<;>cases hc;cases aY (PU _ _) (PV _ _ hg);exact⟨rfl,by kernel_rfl,_,by assumption⟩
theorem zY {p q g:Nat} (hp:Sm BN p) (hq:Sm BN q) (h0:q≠0) (hqp:q<p) (e:p.gcd q=g) :
 bif decide (p<(18446744073709551616:Nat)) then
 ∃(x0:Nat×Nat),
 (((if p<(18446744073709551616:Nat) then (p:Int) else (0:Int))=(x0.fst:Int) /\
 (if q<(18446744073709551616:Nat) then (q:Int) else (0:Int))=(x0.snd:Int))/\(0:Nat)=(0:Nat)) /\
 (x0.fst<(18446744073709551616:Nat)/\x0.snd<(18446744073709551616:Nat)/\x0.fst.gcd x0.snd=g) /\
 ∀(fg:Nat×Nat),
 fg.fst<(18446744073709551616:Nat)/\fg.snd<(18446744073709551616:Nat)/\fg.fst.gcd fg.snd=g ->
 bif decide ((0:Int)<(fg.snd:Int)) then
 (fg.snd:Int)≠(0:Int) /\
 ∃(x':Nat×Nat),
 (((fg.snd:Int)=(x'.fst:Int)/\(fg.fst:Int).tmod (fg.snd:Int)=(x'.snd:Int))/\(0:Nat)=(0:Nat)) /\
 (x'.fst<(18446744073709551616:Nat)/\x'.snd<(18446744073709551616:Nat)/\x'.fst.gcd x'.snd=g)/\x'.snd<fg.snd
 else ((0:Int)<=(fg.fst:Int)/\(fg.fst:Int)<(18446744073709551616:Int))/\(fg.fst:Int).toNat=g
 else (p≠(0:Nat)/\q≠(0:Nat)/\Sm BN p/\Sm BN q)/\p.gcd q=g:=by
 refine aH (λh=>⟨(p,q),⟨⟨aV h,aV (by omega)⟩,rfl⟩,⟨h,by show q<_;omega,e⟩,λ⟨a,b⟩ ⟨h1,h2,h3⟩=>?_⟩) λh=>⟨⟨by omega,h0,hp,hq⟩,e⟩
 dsimp only at h1 h2 h3 ⊢
 refine aH (λh4=>?_) λh4=>⟨⟨by omega,by omega⟩,?_⟩
 ·have hb:0<b:=by omega
  have hm:a%b<b:=sC _ hb
  refine⟨by omega,(b,a%b),⟨⟨rfl,?_⟩,rfl⟩,⟨h2,by show a%b<_;omega,?_⟩,hm⟩
  ·show(a:Int).tmod (b:Int)=((a%b:Nat):Int)
   rw[Int.tmod_eq_emod_of_nonneg (by omega)];rfl
  ·rw[<-h3];show b.gcd (a%b)=a.gcd b
   rw[G7 a b,Mb b a,G7]
 ·have:b=0:=by omega
  subst this
  rw[LR] at h3
  rw[<-h3];rfl
def JN:CF
 | [.k .z x,.k .z y]=>some (some (Sm BN x.natAbs/\Sm BN y.natAbs),.k .nat (Nat.gcd x.natAbs y.natAbs),[])
 | _=>none
def VY:az:=⟨108,false,JN⟩
def VZ (x y:Int):bk:=⟨λkey_=>match key_ with | 1=>7 | 7=>3 | 14=>4 | _=>0,λkey_=>match key_ with
 | 13=>some (⟨Nat×Nat,λp=>[(4,.pt 4 0 2 0 0),(10,.k (.int .u64) ((p.1:Nat):Int)),(12,.k (.int .u64) ((p.2:Nat):Int))],
 λ_=>[(4,.box 51 (.k .nat (0:Nat)))],λ_ p=>p.1<18446744073709551616/\p.2<18446744073709551616/\Nat.gcd p.1 p.2=Nat.gcd x.natAbs y.natAbs,λp=>p.2⟩) | _=>none,λkey_=>match key_ with
 | 1=>some (⟨Unit,λ_=>[(4,.pt 4 0 2 0 0),(5,.pt 5 0 2 0 0),(6,.pt 6 0 2 0 0)],λ_=>[(4,.box 51 (.k .nat (0:Nat))),(5,.box 51 (.k .nat x.natAbs)),(6,.box 51 (.k .nat y.natAbs))]⟩)
 | 7=>some (⟨Nat×Nat,λ_=>[(4,.pt 4 0 2 0 0),(5,.pt 5 0 2 0 0),(6,.pt 6 0 2 0 0)],λp=>[(4,.box 51 (.k .nat (0:Nat))),(5,.box 51 (.k .nat p.1)),(6,.box 51 (.k .nat p.2))]⟩) | _=>none,nU⟩
def apL (x y:Int):Prop:=(0:Nat)=(0:Nat)/\x.natAbs=x.natAbs/\y.natAbs=y.natAbs
def JO (x y:Int):Prop:=∃(y1:Unit),(((((apL x y/\apL x y)/\(apL x y/\apL x y/\apL x y)/\apL x y/\apL x y/\apL x y)/\((apL x y/\apL x y/\apL x y)/\(apL x y
 /\ apL x y)/\apL x y)/\(apL x y/\apL x y/\apL x y)/\(apL x y/\apL x y)/\apL x y)/\(((apL x y/\apL x y)/\(apL x y/\apL x y/\apL x y) /\
 apL x y/\apL x y/\apL x y)/\((apL x y/\apL x y)/\(apL x y/\apL x y)/\apL x y/\apL x y)/\((apL x y/\apL x y/\apL x y)/\(apL x y /\
 apL x y)/\(apL x y/\apL x y)/\apL x y)/\(apL x y/\apL x y/\apL x y)/\(apL x y/\apL x y)/\(apL x y/\apL x y)/\apL x y)/\(((apL x y /\
 apL x y/\apL x y)/\(apL x y/\apL x y)/\apL x y)/\((apL x y/\apL x y/\apL x y)/\(apL x y/\apL x y)/\(apL x y/\apL x y)/\apL x y) /\
 ((apL x y/\apL x y)/\apL x y)/\(apL x y/\apL x y)/\apL x y)/\((apL x y/\apL x y/\apL x y)/\(apL x y/\apL x y)/\apL x y)/\((apL x y /\
 apL x y/\apL x y)/\(apL x y/\apL x y)/\(apL x y/\apL x y)/\apL x y)/\((apL x y/\apL x y)/\apL x y)/\(apL x y/\apL x y)/\apL x y) /\
 ((((apL x y/\apL x y)/\(apL x y/\apL x y/\apL x y)/\apL x y/\apL x y/\apL x y)/\((apL x y/\apL x y)/\(apL x y/\apL x y)/\apL x y /\
 apL x y)/\((apL x y/\apL x y/\apL x y)/\(apL x y/\apL x y)/\(apL x y/\apL x y)/\apL x y)/\(apL x y/\apL x y/\apL x y)/\(apL x y /\
 apL x y)/\(apL x y/\apL x y)/\apL x y)/\(((apL x y/\apL x y)/\(apL x y/\apL x y)/\apL x y/\apL x y)/\((apL x y/\apL x y)/\apL x y) /\
 (apL x y/\apL x y)/\apL x y)/\(((apL x y/\apL x y/\apL x y)/\(apL x y/\apL x y)/\(apL x y/\apL x y)/\apL x y)/\((apL x y/\apL x y) /\
 apL x y)/\((apL x y/\apL x y)/\apL x y)/\apL x y)/\((apL x y/\apL x y/\apL x y)/\(apL x y/\apL x y)/\(apL x y/\apL x y)/\apL x y) /\
 ((apL x y/\apL x y)/\apL x y)/\((apL x y/\apL x y)/\apL x y)/\apL x y)/\((((apL x y/\apL x y/\apL x y)/\(apL x y/\apL x y)/\apL x y)
 /\ ((apL x y/\apL x y/\apL x y)/\(apL x y/\apL x y)/\(apL x y/\apL x y)/\apL x y)/\((apL x y/\apL x y)/\apL x y)/\(apL x y/\apL x y)
 /\ apL x y)/\(((apL x y/\apL x y/\apL x y)/\(apL x y/\apL x y)/\(apL x y/\apL x y)/\apL x y)/\((apL x y/\apL x y)/\apL x y)/\((apL x
 y/\apL x y)/\apL x y)/\apL x y)/\(((apL x y/\apL x y)/\apL x y)/\(apL x y/\apL x y)/\apL x y)/\((apL x y/\apL x y)/\apL x y)/\apL x
 y)/\(((apL x y/\apL x y/\apL x y)/\(apL x y/\apL x y)/\apL x y)/\((apL x y/\apL x y/\apL x y)/\(apL x y/\apL x y)/\(apL x y/\apL x
 y)/\apL x y)/\((apL x y/\apL x y)/\apL x y)/\(apL x y/\apL x y)/\apL x y)/\(((apL x y/\apL x y/\apL x y)/\(apL x y/\apL x y)/\(apL
 x y/\apL x y)/\apL x y)/\((apL x y/\apL x y)/\apL x y)/\((apL x y/\apL x y)/\apL x y)/\apL x y)/\(((apL x y/\apL x y)/\apL x y) /\
 (apL x y/\apL x y)/\apL x y)/\((apL x y/\apL x y)/\apL x y)/\apL x y)/\(Sm BN x.natAbs/\Sm BN y.natAbs)/\bif decide (bG x.natAbs y.natAbs<(0 :
 Int)) then Sm BN x.natAbs/\bif decide ((↑(bl x.natAbs):Int)=0) then y.natAbs=x.natAbs.gcd y.natAbs else (Sm BN y.natAbs/\Sm BN x.natAbs)/\∃(y2:Nat ×
 Nat),((((0:Nat)=(0:Nat)/\x.natAbs=y2.1/\(if x.natAbs=(0:Nat) then (0:Nat) else y.natAbs%x.natAbs)=y2.2)/\(0:Nat)=(0:Nat)/\x.natAbs=y2.1 /\
 (if x.natAbs=(0:Nat) then (0:Nat) else y.natAbs%x.natAbs)=y2.2)/\(0:Nat)=(0:Nat)/\x.natAbs=y2.1/\(if x.natAbs=(0:Nat) then (0:Nat) else
 y.natAbs%x.natAbs)=y2.2)/\Sm BN y2.2/\bif decide ((↑(bl y2.2):Int)=0) then y2.1=x.natAbs.gcd y.natAbs else bif decide (y2.1<(18446744073709551616 :
 Nat)) then ∃(x0:Nat×Nat),(((if y2.1<(18446744073709551616:Nat) then (↑y2.1:Int) else (0:Int))=(↑x0.1:Int)/\(if y2.2<(18446744073709551616:Nat) then
 (↑y2.2:Int) else (0:Int))=(↑x0.2:Int))/\(0:Nat)=0)/\(x0.1<(18446744073709551616:Nat)/\x0.2<(18446744073709551616:Nat)/\x0.1.gcd x0.2 =
 x.natAbs.gcd y.natAbs)/\∀(y3:Nat×Nat),y3.1<(18446744073709551616:Nat)/\y3.2<(18446744073709551616:Nat)/\y3.1.gcd y3.2=x.natAbs.gcd y.natAbs->bif
 decide ((0:Int)<(↑y3.2:Int)) then (↑y3.2:Int)≠(0:Int)/\∃(x':Nat×Nat),(((↑y3.2:Int)=↑x'.1/\(↑y3.1:Int).tmod (↑y3.2:Int)=(↑x'.2 :
 Int))/\(0:Nat)=0)/\(x'.1<(18446744073709551616:Nat)/\x'.2<(18446744073709551616:Nat)/\x'.1.gcd x'.2=x.natAbs.gcd y.natAbs)/\x'.2<y3.2 else
 (0<=(↑y3.1:Int)/\(↑y3.1:Int)<(18446744073709551616:Int))/\(↑y3.1:Int).toNat=x.natAbs.gcd y.natAbs else (y2.1≠(0:Nat)/\y2.2≠(0:Nat)/\Sm BN
 y2.1/\Sm BN y2.2)/\y2.1.gcd y2.2=x.natAbs.gcd y.natAbs else Sm BN y.natAbs/\bif decide ((↑(bl y.natAbs):Int)=0) then x.natAbs=x.natAbs.gcd y.natAbs
 else (Sm BN x.natAbs/\Sm BN y.natAbs)/\∃(y2:Nat×Nat),((((0:Nat)=(0:Nat)/\y.natAbs=y2.1/\(if y.natAbs=(0:Nat) then (0:Nat) else x.natAbs %
 y.natAbs)=y2.2)/\(0:Nat)=(0:Nat)/\y.natAbs=y2.1/\(if y.natAbs=(0:Nat) then (0:Nat) else x.natAbs%y.natAbs)=y2.2)/\(0:Nat)=(0:Nat)/\y.natAbs
 = y2.1/\(if y.natAbs=(0:Nat) then (0:Nat) else x.natAbs%y.natAbs)=y2.2)/\Sm BN y2.2/\bif decide ((↑(bl y2.2):Int)=0) then y2.1=x.natAbs.gcd
 y.natAbs else bif decide (y2.1<(18446744073709551616:Nat)) then ∃(x0:Nat×Nat),(((if y2.1<(18446744073709551616:Nat) then (↑y2.1:Int) else (0:Int)) =
 (↑x0.1:Int)/\(if y2.2<(18446744073709551616:Nat) then (↑y2.2:Int) else (0:Int))=(↑x0.2:Int))/\(0:Nat)=0)/\(x0.1<(18446744073709551616 :
 Nat)/\x0.2<(18446744073709551616:Nat)/\x0.1.gcd x0.2=x.natAbs.gcd y.natAbs)/\∀(y3:Nat×Nat),y3.1<(18446744073709551616:Nat)/\y3.2 <
 (18446744073709551616:Nat)/\y3.1.gcd y3.2=x.natAbs.gcd y.natAbs->bif decide ((0:Int)<(↑y3.2:Int)) then (↑y3.2:Int)≠(0:Int)/\∃(x':Nat×Nat),
 (((↑y3.2:Int)=↑x'.1/\(↑y3.1:Int).tmod (↑y3.2:Int)=↑x'.2)/\(0:Nat)=0)/\(x'.1<(18446744073709551616:Nat)/\x'.2 <
 (18446744073709551616:Nat)/\x'.1.gcd x'.2=x.natAbs.gcd y.natAbs)/\x'.2<y3.2 else (0<=(↑y3.1:Int)/\(↑y3.1:Int)<(18446744073709551616:Int)) /\
 (↑y3.1:Int).toNat=x.natAbs.gcd y.natAbs else (y2.1≠(0:Nat)/\y2.2≠(0:Nat)/\Sm BN y2.1/\Sm BN y2.2)/\y2.1.gcd y2.2=x.natAbs.gcd y.natAbs
theorem PW (x y:Int):aw VT [] (VZ x y) Tryz.f108 (.k .nat (Nat.gcd x.natAbs y.natAbs)) [.k .z x,.k .z y]=JO x y:=by kernel_rfl
theorem PX (x y:Int) (hg:Sm BN x.natAbs/\Sm BN y.natAbs):JO x y:=by
 unfold JO;obtain⟨h1,h2⟩:=hg;have ZJ:∀{n:Nat},((bl n:Nat):Int)=0->n=0:=fun {n} h=>by
  rcases iS n with e | e
  ·exact e
  ·have:=(fl n).2 e;omega
 have PY:∀{n:Nat},¬((bl n:Nat):Int)=0->n≠0:=fun {n} h e=>h (by rw[e,gf];rfl);refine⟨(),by simp[apL],⟨h1,h2⟩,aH (λhc=>⟨h1,aH (λh=>?_) λh=>⟨⟨h2,h1⟩,(x.natAbs,y.natAbs%x.natAbs),?_,(h2.mod _),aH (λh3=>?_) λh3=>zY h1 (h2.mod _) (PY h3) (sC _ (yc (PY h))) ?_⟩⟩) λhc=>⟨h2,aH (λh=>?_) λh=>⟨⟨h1,h2⟩,(y.natAbs,x.natAbs%y.natAbs),?_,(h1.mod _),aH (λh3=>?_) λh3=>zY h2 (h1.mod _) (PY h3) (sC _ (yc (PY h))) ?_⟩⟩⟩
 ·rw[ZJ h,Nat.gcd_zero_left]
 ·rw[aI (PY h)];simp
 ·exact(Nat.gcd_eq_left (Nat.dvd_of_mod_eq_zero (ZJ h3))).symm
 ·rw[Mb x.natAbs y.natAbs,G7]
 ·rw[ZJ h,LR]
 ·rw[aI (PY h)];simp
 ·exact(Nat.gcd_eq_right (Nat.dvd_of_mod_eq_zero (ZJ h3))).symm
 ·rw[G7 x.natAbs y.natAbs,Mb y.natAbs x.natAbs,G7]
theorem PZ:aqJ (cfg []) VY:=cf vo bp Tryz.func108 λa _ _ _ hc hg hf=>by change JN a=_ at hc;unfold JN at hc;split at hc<;>cases hc;cases aY (PW _ _) (PX _ _ hg);exact⟨rfl,by kernel_rfl,_,by assumption⟩
def BQ:Nat:=20000000000
theorem B1 {n:Nat}:((bl n:Nat):Int)=1↔n=1:=by
 constructor
 ·intro h;have h1:bl n<=1:=by omega
  have h2:=(fZ n 1).1 h1;have h3:(0:Int)<((bl n:Nat):Int):=by omega
  have h4:=(fl n).1 h3;omega
 ·intro h;subst h;have h1:=(fl 1).2 (by omega);have h2:bl 1<=1:=(fZ 1 1).2 (by omega);omega
theorem ZK {n:Nat}:((bl n:Nat):Int)=0↔n=0:=by
 constructor
 ·intro h;rcases iS n with e | e
  ·exact e
  ·have:=(fl n).2 e;omega
 ·intro h;rw[h,gf];rfl
theorem FH {x:Rat}:d1 x.den=0↔x.den=1:=by unfold d1;have:=x.den_pos;split<;>omega
theorem afz {k d:Nat} (h:Sm k d):Sm k (d1 d):=by
 unfold d1;split
 ·exact Sm.zero k
 ·exact h
theorem afA {k a b:Nat} (ha:Sm k a) (h0:a≠0):Sm k (Nat.gcd a b):=ha.mono (Ls (by omega) (C0 _ _))
theorem zZ {k a b:Nat} (hb:Sm k b) (h0:b≠0):Sm k (Nat.gcd a b):=hb.mono (Ls (by omega) (G3 _ _))
theorem fN (n:Int):j6 n 0=(n:Rat):=by unfold j6;rw[aV rfl,Lu]
theorem adb {n:Int} {d:Nat} (h:d≠0):j6 n d=mkRat n d:=by unfold j6;rw[aI h]
theorem ZL (x:Rat):j6 x.num (d1 x.den)=x:=by
 unfold j6 d1;have h:=CQ x;have:=x.den_pos;by_cases e:x.den=1
 ·rw[aV e,aV rfl];rw[e] at h;exact h
 ·rw[aI e,aI (by omega)];exact h
theorem Ng (n:Int) {m:Int} (h:m<0):mkRat (-n) m.natAbs=(n:Rat)/(m:Rat):=by rw[<-L9,<-Rat.neg_divInt_neg,show -m=((m.natAbs:Nat):Int) from by omega,Mi]
theorem mk_pos (n:Int) {m:Int} (h:¬m<0):mkRat n m.natAbs=(n:Rat)/(m:Rat):=by rw[<-L9,<-Mi,show((m.natAbs:Nat):Int)=m from by omega]
theorem ZM {y:Rat} (h0:y≠0):mkRat (bW (decide (y.num.sign<0)) y.den) y.num.natAbs=y⁻¹/\(bW (decide (y.num.sign<0)) y.den).natAbs.Coprime y.num.natAbs:=by
 have hn:y.num≠0:=λe=>h0 (Gy.1 e);have e1:bW (decide (y.num.sign<0)) y.den=(y⁻¹).num:=by
  rw[Rat.num_inv];rcases Int.lt_or_gt_of_ne hn with h | h
  ·rw[uZ h,show decide ((-1:Int)<0)=true from rfl];show -((y.den:Nat):Int)=_;omega
  ·rw[xX h,show decide ((1:Int)<0)=false from rfl];show((y.den:Nat):Int)=_;omega
 have e2:(y⁻¹).den=y.num.natAbs:=by rw[Rat.den_inv,aI hn]
 rw[e1,<-e2];exact⟨CQ _,(y⁻¹).reduced⟩
theorem P0 {x y:Rat} (hx:Sq BQ x) (hy:Sq BQ y) {g a b h:Nat} {u:Int} (hg:g=x.den.gcd y.den) (ha:a=x.den/g) (hb:b=y.den/g) (hu:u=x.num*b+y.num*a) (hh:h=u.natAbs.gcd g) :
  Sq BQ x/\Sm BN x.den/\Sq BQ y/\Sm BN y.den/\(Sm BN x.den/\Sm BN y.den)/\Sq BQ x/\(Sm BN x.den/\Sm BN g/\g≠0)/\Sq BQ y/\(Sm BN y.den/\Sm BN g/\g≠0)/\(Sm BZ x.num.natAbs/\Sm BZ b)/\(Sm BZ y.num.natAbs/\Sm BZ a)/\(Sm BZ (x.num*(b:Int)).natAbs/\Sm BZ (y.num*(a:Int)).natAbs)/\Sm BN g/\(Sm BN u.natAbs/\Sm BN g)/\(Sm BZ u.natAbs/\Sm BZ h/\h≠0/\h∣u.natAbs)/\Sq BQ y/\(Sm BN y.den/\Sm BN h/\h≠0)/\(Sm BN a/\Sm BN (y.den/h))/\(Sm BN (a*(y.den/h))/\a*(y.den/h)≠0/\(u/(h:Int)).natAbs.Coprime (a*(y.den/h)))/\mkRat (u/(h:Int)) (a*(y.den/h))=x+y:=by
 obtain⟨k1,k2⟩:=add_eq x y hg ha hb hu hh
 have gp:g≠0:=by rw[hg];exact G6 (KV _ x.den_pos)
 have hp:h≠0:=by rw[hh];exact G6 (CS _ (yc gp))
 have sg:Sm BQ g:=by rw[hg];exact afA hx.den x.den_nz
 have sh:Sm BQ h:=by rw[hh];exact zZ sg gp
 have sa:Sm BQ a:=by rw[ha];exact hx.den.div _
 have sb:Sm BQ b:=by rw[hb];exact hy.den.div _
 have p1:Sm (BQ+BQ) (x.num*(b:Int)).natAbs:=by rw[yk];exact hx.num.mul sb
 have p2:Sm (BQ+BQ) (y.num*(a:Int)).natAbs:=by rw[yk];exact hy.num.mul sa
 have su:Sm (BQ+BQ+1) u.natAbs:=by rw[hu];exact(p1.S7 p2).le (by omega)
 have l1:BQ<=BN:=by unfold BQ BN;omega
 have l2:BQ<=BZ:=by unfold BQ BZ;omega
 have l3:BQ+BQ+1<=BZ:=by unfold BQ BZ;omega
 have l4:BQ+BQ+1<=BN:=by unfold BQ BN;omega
 rw[k1,k2]
 exact⟨hx,hx.den.le l1,hy,hy.den.le l1,⟨hx.den.le l1,hy.den.le l1⟩,hx,⟨hx.den.le l1,sg.le l1,gp⟩,hy,⟨hy.den.le l1,sg.le l1,gp⟩,⟨hx.num.le l2,sb.le l2⟩,⟨hy.num.le l2,sa.le l2⟩,⟨p1.le (by omega),p2.le (by omega)⟩,sg.le l1,⟨su.le l4,sg.le l1⟩,⟨su.le l3,sh.le l2,hp,by rw[hh];exact C0 _ _⟩,hy,⟨hy.den.le l1,sh.le l1,hp⟩,⟨sa.le l1,(hy.den.div _).le l1⟩,⟨(hx.add hy).den.le l4,(x+y).den_nz,(x+y).reduced⟩,CQ _⟩
theorem P2 {x y:Rat} (hx:Sq BQ x) (hy:Sq BQ y) {g h:Nat} (hg:g=x.num.natAbs.gcd y.den) (hh:h=y.num.natAbs.gcd x.den) :
  Sq BQ y/\Sm BN y.den/\(Sm BN x.num.natAbs/\Sm BN y.den)/\Sq BQ x/\Sm BN x.den/\(Sm BN y.num.natAbs/\Sm BN x.den)/\(Sm BZ x.num.natAbs/\Sm BZ g/\g≠0/\g∣x.num.natAbs)/\(Sm BZ y.num.natAbs/\Sm BZ h/\h≠0/\h∣y.num.natAbs)/\(Sm BZ (x.num/(g:Int)).natAbs/\Sm BZ (y.num/(h:Int)).natAbs)/\Sq BQ x/\(Sm BN x.den/\Sm BN h/\h≠0)/\Sq BQ y/\(Sm BN y.den/\Sm BN g/\g≠0)/\(Sm BN (x.den/h)/\Sm BN (y.den/g))/\(Sm BN (x.den/h*(y.den/g))/\x.den/h*(y.den/g)≠0/\(x.num/(g:Int)*(y.num/(h:Int))).natAbs.Coprime (x.den/h*(y.den/g)))/\mkRat (x.num/(g:Int)*(y.num/(h:Int))) (x.den/h*(y.den/g))=x*y:=by
 obtain⟨k1,k2⟩:=mul_eq x y hg hh
 have gp:g≠0:=by rw[hg];exact G6 (CS _ y.den_pos)
 have hp:h≠0:=by rw[hh];exact G6 (CS _ x.den_pos)
 have sg:Sm BQ g:=by rw[hg];exact zZ hy.den y.den_nz
 have sh:Sm BQ h:=by rw[hh];exact zZ hx.den x.den_nz
 have dg:g∣x.num.natAbs:=by rw[hg];exact C0 _ _
 have dh:h∣y.num.natAbs:=by rw[hh];exact C0 _ _
 have l1:BQ<=BN:=by unfold BQ BN;omega
 have l2:BQ<=BZ:=by unfold BQ BZ;omega
 have l4:BQ+BQ<=BN:=by unfold BQ BN;omega
 rw[k1,k2]
 exact⟨hy,hy.den.le l1,⟨hx.num.le l1,hy.den.le l1⟩,hx,hx.den.le l1,⟨hy.num.le l1,hx.den.le l1⟩,⟨hx.num.le l2,sg.le l2,gp,dg⟩,⟨hy.num.le l2,sh.le l2,hp,dh⟩,⟨(hx.num.S9 (yc gp) dg).le l2,(hy.num.S9 (yc hp) dh).le l2⟩,hx,⟨hx.den.le l1,sh.le l1,hp⟩,hy,⟨hy.den.le l1,sg.le l1,gp⟩,⟨(hx.den.div _).le l1,(hy.den.div _).le l1⟩,⟨(hx.mul hy).den.le l4,(x*y).den_nz,(x*y).reduced⟩,CQ _⟩
noncomputable def B2:List az:=vm::Jw::sj::vn::VR::JG::JL::[]
theorem lL:bd B2:=⟨qS,zT,nG,qT,PM,zW,zX,trivial⟩
def a3x:CF
 | [.k .q x]=>some (some (Sq BQ x),.k .bool (decide (x.den=1)),[])
 | _=>none
def FI:az:=⟨86,false,a3x⟩
def JP (x:Rat):bk:=⟨nU,nL,nR,nU⟩
def xI (x:Rat):Prop:=Sm BN (d1 x.den)/\decide ((↑(bl (d1 x.den)):Int)=0)=decide (x.den=(1:Nat))
theorem FJ (x:Rat):aw B2 [] (JP x) Tryz.f86 (.k .bool (decide (x.den=1))) [.k .q x]=xI x:=by kernel_rfl
theorem FK (x:Rat) (hg:Sq BQ x):xI x:=by unfold xI;exact⟨(afz hg.den).le (by unfold BQ BN;omega),yw.2 (ZK.trans FH)⟩
theorem FL:aqJ (cfg []) FI:=fnq lL bp Tryz.func86 λargs g r hn hc hg hf=>by
 replace hc:a3x args=some (g,r,hn):=hc;unfold a3x at hc;split at hc
 ·cases hc;exact⟨rfl,by kernel_rfl,_,(FJ ..).mpr (FK _ hg)⟩
 ·cases hc
def a4v:CF
 | [.k .nat a,.k .nat b]=>some (some (Sm BN a/\Sm BN b/\b≠0),.k .nat (a/b:Nat),[])
 | _=>none
def Nh:az:=⟨109,false,a4v⟩
def P3 (a b:Nat):bk:=⟨nU,nL,nR,nU⟩
def B3 (a b:Nat):Prop:=Sm BN b/\bif decide ((↑(bl b):Int)=(1:Int)) then a=a/b else (Sm BN a/\Sm BN b)/\a/b=a/b
theorem JQ (a b:Nat):aw B2 [] (P3 a b) Tryz.f109 (.k .nat (a/b:Nat)) [.k .nat a,.k .nat b]=B3 a b:=by kernel_rfl
theorem JR (a b:Nat) (hg:Sm BN a/\Sm BN b/\b≠0):B3 a b:=by unfold B3;obtain⟨h1,h2,h3⟩:=hg;exact⟨h2,aH (λh=>by rw[B1.1 h,Nat.div_one]) λ_=>⟨⟨h1,h2⟩,rfl⟩⟩
theorem JS:aqJ (cfg []) Nh:=fnq lL bp Tryz.func109 λargs g r hn hc hg hf=>by
 replace hc:a4v args=some (g,r,hn):=hc;unfold a4v at hc;split at hc
 ·cases hc;exact⟨rfl,by kernel_rfl,_,(JQ ..).mpr (JR _ _ hg)⟩
 ·cases hc
def a3y:CF
 | [.k .z n,.k .nat d]=>some (some (Sm BZ n.natAbs/\Sm BZ d),.k .z (n*(d:Int):Int),[])
 | _=>none
def FM:az:=⟨88,false,a3y⟩
def JT (n:Int) (d:Nat):bk:=⟨λkey_=>match key_ with | 1=>3 | _=>0,nL,nR,nU⟩
def xJ (n:Int) (d:Nat):Prop:=Sm BN d/\(Sm BZ n.natAbs/\Sm BZ (bW false d).natAbs)/\n*bW false d=n*(d:Int)
theorem FN (n:Int) (d:Nat):aw B2 [] (JT n d) Tryz.f88 (.k .z (n*(d:Int):Int)) [.k .z n,.k .nat d]=xJ n d:=by kernel_rfl
theorem FO (n:Int) (d:Nat) (hg:Sm BZ n.natAbs/\Sm BZ d):xJ n d:=by unfold xJ;exact⟨hg.2.le (by unfold BZ BN;omega),hg,rfl⟩
theorem FP:aqJ (cfg []) FM:=fnq lL bp Tryz.func88 λargs g r hn hc hg hf=>by
 replace hc:a3y args=some (g,r,hn):=hc;unfold a3y at hc;split at hc
 ·cases hc;exact⟨rfl,by kernel_rfl,_,(FN ..).mpr (FO _ _ hg)⟩
 ·cases hc
def B4:CF
 | [.k .z n,.k .nat d]=>some (some (Sm BN d/\d≠0/\n.natAbs.Coprime d),.k .q (mkRat n d),[])
 | _=>none
def Ni:az:=⟨110,false,B4⟩
def P4 (n:Int) (d:Nat):bk:=⟨nU,nL,nR,nU⟩
def B5 (n:Int) (d:Nat):Prop:=Sm BN d/\bif decide ((↑(bl d):Int)=(1:Int)) then ((0:Nat)=(0:Nat)\/(0:Nat)≠(1:Nat)/\n.natAbs.Coprime (0:Nat))/\j6 n (0:Nat)=mkRat n d else (d
 = (0:Nat)\/d≠(1:Nat)/\n.natAbs.Coprime d)/\j6 n d=mkRat n d
theorem JU (n:Int) (d:Nat):aw B2 [] (P4 n d) Tryz.f110 (.k .q (mkRat n d)) [.k .z n,.k .nat d]=B5 n d:=by kernel_rfl
theorem JV (n:Int) (d:Nat) (hg:Sm BN d/\d≠0/\n.natAbs.Coprime d):B5 n d:=by unfold B5;obtain⟨h1,h2,h3⟩:=hg;exact⟨h1,aH (λh=>⟨.inl rfl,by rw[fN,B1.1 h,Lu]⟩) λh=>⟨.inr ⟨λe=>h (B1.2 e),h3⟩,adb h2⟩⟩
theorem JW:aqJ (cfg []) Ni:=fnq lL bp Tryz.func110 λargs g r hn hc hg hf=>by
 replace hc:B4 args=some (g,r,hn):=hc;unfold B4 at hc;split at hc
 ·cases hc;exact⟨rfl,by kernel_rfl,_,(JU ..).mpr (JV _ _ hg)⟩
 ·cases hc
def a6h:CF
 | [.k (.int .i64) n]=>some (some (ax n),.k .q ((n:Int):Rat),[])
 | _=>none
def aa5:az:=⟨42,false,a6h⟩
def ZN (n:Int):bk:=⟨nU,nL,nR,nU⟩
def V0 (n:Int):Prop:=((-9223372036854775808:Int)<=n/\n<=(9223372036854775807:Int))/\((0:Nat)=(0:Nat)\/(0:Nat)≠(1:Nat)/\n.natAbs.Coprime (0:Nat))/\j6 n (0:Nat) =
 (↑n:Rat)
theorem V2 (n:Int):aw B2 [] (ZN n) Tryz.f42 (.k .q ((n:Int):Rat)) [.k (.int .i64) n]=V0 n:=by kernel_rfl
theorem V4 (n:Int) (hg:ax n):V0 n:=by unfold V0;exact⟨hg,.inl rfl,fN n⟩
theorem V5:aqJ (cfg []) aa5:=fnq lL bp Tryz.func42 λargs g r hn hc hg hf=>by
 replace hc:a6h args=some (g,r,hn):=hc;unfold a6h at hc;split at hc
 ·cases hc;exact⟨rfl,by kernel_rfl,_,(V2 ..).mpr (V4 _ hg)⟩
 ·cases hc
def JX:CF
 | [.k .q x]=>some (none,.k .z x.num,[])
 | _=>none
def V6:az:=⟨65,false,JX⟩
def V7 (x:Rat):bk:=⟨nU,nL,nR,nU⟩
def V8 (x:Rat):Prop:=x.num=x.num
theorem P5 (x:Rat):aw B2 [] (V7 x) Tryz.f65 (.k .z x.num) [.k .q x]=V8 x:=by kernel_rfl
theorem P6 (x:Rat) (hf:cJ [.k .q x]):V8 x:=by rfl
theorem P7:aqJ (cfg []) V6:=fnq lL bp Tryz.func65 λargs g r hn hc hg hf=>by
 replace hc:JX args=some (g,r,hn):=hc;unfold JX at hc;split at hc
 ·cases hc;exact⟨rfl,by kernel_rfl,_,(P5 ..).mpr (P6 _ hf)⟩
 ·cases hc
def B6:CF
 | [.k .q x]=>some (some (Sq BQ x),.k (.int .i64) (x.num.sign:Int),[])
 | _=>none
def Nj:az:=⟨52,false,B6⟩
def P8 (x:Rat):bk:=⟨nU,nL,nR,nU⟩
def Nk (x:Rat):Prop:=Sm BN x.num.natAbs/\x.num.sign=x.num.sign
theorem JY (x:Rat):aw B2 [] (P8 x) Tryz.f52 (.k (.int .i64) (x.num.sign:Int)) [.k .q x]=Nk x:=by kernel_rfl
theorem JZ (x:Rat) (hg:Sq BQ x):Nk x:=by exact⟨hg.num.le (by unfold BQ BN;omega),rfl⟩
theorem J0:aqJ (cfg []) Nj:=fnq lL bp Tryz.func52 λargs g r hn hc hg hf=>by
 replace hc:B6 args=some (g,r,hn):=hc;unfold B6 at hc;split at hc
 ·cases hc;exact⟨rfl,by kernel_rfl,_,(JY ..).mpr (JZ _ hg)⟩
 ·cases hc
def J1:CF
 | [.k .q x]=>some (some (Sq BQ x),.k .q (-x:Rat),[])
 | _=>none
def V9:az:=⟨114,false,J1⟩
def Wa (x:Rat):bk:=⟨λkey_=>match key_ with | 1=>5 | _=>0,nL,nR,nU⟩
def J2 (x:Rat):Prop:=Sm BN x.num.natAbs/\(d1 x.den=(0:Nat)\/d1 x.den≠(1:Nat)/\(-x.num).natAbs.Coprime (d1 x.den))/\j6 (-x.num) (d1 x.den) = -x
theorem P9 (x:Rat):aw B2 [] (Wa x) Tryz.f114 (.k .q (-x:Rat)) [.k .q x]=J2 x:=by kernel_rfl
theorem Qb (x:Rat) (hg:Sq BQ x):J2 x:=by
 unfold J2;refine⟨hg.num.le (by unfold BQ BN;omega),?_,?_⟩
 ·by_cases e:x.den=1
  ·exact .inl (FH.2 e)
  ·refine .inr ?_;unfold d1;rw[aI e,LX];exact⟨e,x.reduced⟩
 ·exact ZL (-x)
theorem Qc:aqJ (cfg []) V9:=fnq lL bp Tryz.func114 λargs g r hn hc hg hf=>by
 replace hc:J1 args=some (g,r,hn):=hc;unfold J1 at hc;split at hc
 ·cases hc;exact⟨rfl,by kernel_rfl,_,(P9 ..).mpr (Qb _ hg)⟩
 ·cases hc
noncomputable def ZO:List az:=FI::Nh::FM::Ni::Nj::V9::Nf::Ju::sj::JA::vn::VP::JG::VV::JL::VY::[]
theorem B7:bd ZO:=⟨FL,JS,FP,JW,J0,Qc,xG,zR,nG,zV,qT,PJ,zW,PT,zX,PZ,trivial⟩
def J3:CF
 | [.k .q x]=>some (some (Sq BQ x),.k .nat x.den,[])
 | _=>none
def J4:az:=⟨67,false,J3⟩
def Wb (x:Rat):bk:=⟨nU,nL,nR,nU⟩
def J5 (x:Rat):Prop:=Sq BQ x/\bif decide (x.den=(1:Nat)) then ((0:Int)<=(1:Int)/\(1:Int)<(18446744073709551616:Int))/\Int.toNat (1:Int)=x.den else d1 x.den=x.den
theorem Qd (x:Rat):aw ZO [] (Wb x) Tryz.f67 (.k .nat x.den) [.k .q x]=J5 x:=by kernel_rfl
theorem Qe (x:Rat) (hg:Sq BQ x):J5 x:=by unfold J5;refine⟨hg,aH (λh=>⟨by omega,h.symm⟩) λh=>?_⟩;unfold d1;exact aI h
theorem z6:aqJ (cfg []) J4:=fnq B7 bp Tryz.func67 λargs g r hn hc hg hf=>by
 replace hc:J3 args=some (g,r,hn):=hc;unfold J3 at hc;split at hc
 ·cases hc;exact⟨rfl,by kernel_rfl,_,(Qd ..).mpr (Qe _ hg)⟩
 ·cases hc
def B8:CF
 | [.k .z n,.k .nat b]=>some (some (Sm BZ n.natAbs/\Sm BZ b/\b≠0/\b∣n.natAbs),.k .z (n/(b:Int):Int),[])
 | _=>none
def Nl:az:=⟨111,false,B8⟩
def Qf (n:Int) (b:Nat):bk:=⟨λkey_=>match key_ with | 1=>6 | _=>0,nL,nR,nU⟩
def B9 (n:Int) (b:Nat):Prop:=Sm BN n.natAbs/\(Sm BN n.natAbs/\Sm BN b/\b≠0)/\Sm BN (n.natAbs/b)/\bW (decide (n.sign<0)) (n.natAbs/b)=n/(b:Int)
theorem J6 (n:Int) (b:Nat):aw ZO [] (Qf n b) Tryz.f111 (.k .z (n/(b:Int):Int)) [.k .z n,.k .nat b]=B9 n b:=by kernel_rfl
theorem J7 (n:Int) (b:Nat) (hg:Sm BZ n.natAbs/\Sm BZ b/\b≠0/\b∣n.natAbs):B9 n b:=by
 unfold B9;obtain⟨h1,h2,h3,h4⟩:=hg;have l:BZ<=BN:=by unfold BZ BN;omega
 refine⟨h1.le l,⟨h1.le l,h2.le l,h3⟩,(h1.div _).le l,?_⟩;rw[yw.2 (show n.sign<0↔n<0 from C1)];exact My (yc h3) h4
theorem J8:aqJ (cfg []) Nl:=fnq B7 bp Tryz.func111 λargs g r hn hc hg hf=>by
 replace hc:B8 args=some (g,r,hn):=hc;unfold B8 at hc;split at hc
 ·cases hc;exact⟨rfl,by kernel_rfl,_,(J6 ..).mpr (J7 _ _ hg)⟩
 ·cases hc
noncomputable def LF3:List az:=J4::Nl::ZO
theorem Nn:bd LF3:=⟨z6,J8,B7⟩
def J9:CF
 | [.k .z n,.k .nat d]=>some (some (Sm BZ n.natAbs/\Sm BZ d/\d≠0),.k .q (mkRat n d),[])
 | _=>none
def Wc:az:=⟨91,false,J9⟩
def Wd (n:Int) (d:Nat):bk:=⟨λkey_=>match key_ with | 1=>5 | 2=>5 | _=>0,nL,nR,nU⟩
def We (n:Int) (d:Nat):Prop:=
 let t1:=bW false d;
 Sm BN d/\(Sm BN n.natAbs/\Sm BN t1.natAbs)/\(Sm BZ n.natAbs/\Sm BZ (n.natAbs.gcd t1.natAbs)/\n.natAbs.gcd t1.natAbs≠(0:Nat)/\n.natAbs.gcd t1.natAbs∣n.natAbs)
 /\ (Sm BN d/\Sm BN (n.natAbs.gcd t1.natAbs)/\n.natAbs.gcd t1.natAbs≠0)/\(Sm BN (d/n.natAbs.gcd t1.natAbs)/\d/n.natAbs.gcd t1.natAbs≠(0:Nat)/\(n /
 (↑(n.natAbs.gcd t1.natAbs):Int)).natAbs.Coprime (d/n.natAbs.gcd t1.natAbs))/\mkRat (n/(↑(n.natAbs.gcd t1.natAbs):Int)) (d/n.natAbs.gcd t1.natAbs)=mkRat n d
theorem Qg (n:Int) (d:Nat):aw LF3 [] (Wd n d) Tryz.f91 (.k .q (mkRat n d)) [.k .z n,.k .nat d]=We n d:=by kernel_rfl
theorem Qh (n:Int) (d:Nat) (hg:Sm BZ n.natAbs/\Sm BZ d/\d≠0):We n d:=by
 obtain⟨h1,h2,h3⟩:=hg;have l:BZ<=BN:=by unfold BZ BN;omega
 have gp:n.natAbs.gcd d≠0:=G6 (CS _ (yc h3));obtain⟨k1,k2⟩:=qp n (yc h3);have sd:=h2.div (n.natAbs.gcd d);refine(show Sm BN d/\(Sm BN n.natAbs/\Sm BN d)/\(Sm BZ n.natAbs/\Sm BZ (n.natAbs.gcd d)/\n.natAbs.gcd d≠0/\n.natAbs.gcd d∣n.natAbs)/\(Sm BN d/\Sm BN (n.natAbs.gcd d)/\n.natAbs.gcd d≠0)/\(Sm BN (d/n.natAbs.gcd d)/\d/n.natAbs.gcd d≠0/\(n/((n.natAbs.gcd d:Nat):Int)).natAbs.Coprime (d/n.natAbs.gcd d))/\mkRat (n/((n.natAbs.gcd d:Nat):Int)) (d/n.natAbs.gcd d)=mkRat n d from ?_);refine⟨h2.le l,⟨h1.le l,h2.le l⟩,⟨h1,zZ h2 h3,gp,C0 _ _⟩,⟨h2.le l,(zZ h2 h3).le l,gp⟩,⟨sd.le l,?_,?_⟩,?_⟩
 ·rw[k2];exact(mkRat n d).den_nz
 ·rw[k1,k2];exact(mkRat n d).reduced
 ·rw[k1,k2];exact CQ _
theorem Qi:aqJ (cfg []) Wc:=fnq Nn bp Tryz.func91 λargs g r hn hc hg hf=>by
 replace hc:J9 args=some (g,r,hn):=hc;unfold J9 at hc;split at hc
 ·cases hc;exact⟨rfl,by kernel_rfl,_,(Qg ..).mpr (Qh _ _ hg)⟩
 ·cases hc
noncomputable def Qj:List az:=Wc::LF3
theorem sn:bd Qj:=⟨Qi,Nn⟩
def a4w:CF
 | [.k .z n,.k .z d]=>some (some (Sm BZ n.natAbs/\Sm BZ d.natAbs/\d≠0),T2 (.k .q ((n:Rat)/(d:Rat))) (.k .bool true),[])
 | _=>none
def No:az:=⟨58,false,a4w⟩
def Qk (n d:Int):bk:=⟨λkey_=>match key_ with | 5=>3 | _=>0,nL,nR,nU⟩
def Ca (n d:Int):Prop:=Sm BN d.natAbs/\bif decide (d.sign=0) then ((0:Nat)=(0:Nat)\/(0:Nat)≠(1:Nat)/\(Int.natAbs (0:Int)).Coprime (0:Nat))/\j6 (0:Int) (0:Nat)
 = (↑n:Rat)/(↑d:Rat)/\false=true else Sm BN d.natAbs/\bif decide (d.sign<0) then Sm BN n.natAbs/\(Sm BZ (-n).natAbs/\Sm BZ d.natAbs/\d.natAbs≠(0 :
 Nat))/\mkRat (-n) d.natAbs=(↑n:Rat)/(↑d:Rat)/\true=true else (Sm BZ n.natAbs/\Sm BZ d.natAbs/\d.natAbs≠0)/\mkRat n d.natAbs=(↑n:Rat)/(↑d :
 Rat)/\true=true
theorem Ka (n d:Int):aw Qj [] (Qk n d) Tryz.f58 (T2 (.k .q ((n:Rat)/(d:Rat))) (.k .bool true)) [.k .z n,.k .z d]=Ca n d:=by kernel_rfl
theorem Kb (n d:Int) (hg:Sm BZ n.natAbs/\Sm BZ d.natAbs/\d≠0):Ca n d:=by
 obtain⟨h1,h2,h3⟩:=hg;have l:BZ<=BN:=by unfold BZ BN;omega
 unfold Ca;exact⟨h2.le l,aH (λh=>absurd (GY.1 h) h3) λ_=>⟨h2.le l,aH (λh=>⟨h1.le l,⟨h1.S8,h2,by omega⟩,Ng n (C1.1 h),rfl⟩) λh=>⟨⟨h1,h2,by omega⟩,mk_pos n (λe=>h (C1.2 e)),rfl⟩⟩⟩
theorem Kc:aqJ (cfg []) No:=fnq sn bp Tryz.func58 λargs g r hn hc hg hf=>by
 replace hc:a4w args=some (g,r,hn):=hc;unfold a4w at hc;split at hc
 ·cases hc;exact⟨rfl,by kernel_rfl,_,(Ka ..).mpr (Kb _ _ hg)⟩
 ·cases hc
def a5j:CF
 | [.k .q x,.k .q y]=>some (some (Sq BQ x/\Sq BQ y),.k (.int .i64) (fS x y:Int),[])
 | _=>none
def Ke:az:=⟨54,false,a5j⟩
def Wf (x y:Rat):bk:=⟨λkey_=>match key_ with | 1=>10 | 3=>9 | _=>0,nL,nR,nU⟩
def so (x y:Rat):Prop:=Sq BQ x/\Sq BQ y/\bif !decide (x.num.sign=y.num.sign) then (Sm BN x.num.natAbs/\Sm BN y.num.natAbs)/\dS x.num y.num=fS x y else Sq BQ y/\(Sm BZ x.num.natAbs
 /\ Sm BZ y.den)/\Sq BQ x/\(Sm BZ y.num.natAbs/\Sm BZ x.den)/\(Sm BN (x.num*(↑y.den:Int)).natAbs/\Sm BN (y.num*(↑x.den:Int)).natAbs)/\dS (x.num*(↑y.den :
 Int)) (y.num*(↑x.den:Int))=fS x y
def Kf (x y:Rat):Prop:=Sq BQ x/\bif decide (x.den=(1:Nat)) then Sq BQ y/\bif decide (y.den=(1:Nat)) then (Sm BN x.num.natAbs/\Sm BN y.num.natAbs)/\dS x.num y.num=fS x y else
 so x y else so x y
theorem Ql (x y:Rat):aw Qj [] (Wf x y) Tryz.f54 (.k (.int .i64) (fS x y:Int)) [.k .q x,.k .q y]=Kf x y:=by kernel_rfl
theorem Qm (x y:Rat) (hg:Sq BQ x/\Sq BQ y):Kf x y:=by
 obtain⟨h1,h2⟩:=hg;have l:BQ<=BN:=by unfold BQ BN;omega
 have l2:BQ<=BZ:=by unfold BQ BZ;omega
 have l3:BQ+BQ<=BN:=by unfold BQ BN;omega
 have hr:so x y:=by
  unfold so;refine⟨h1,h2,dP (λh=>⟨⟨h1.num.le l,h2.num.le l⟩,Ic h⟩) λ_=>⟨h2,⟨h1.num.le l2,h2.den.le l2⟩,h1,⟨h2.num.le l2,h1.den.le l2⟩,⟨?_,?_⟩,ot x y⟩⟩
  ·rw[yk];exact(h1.num.mul h2.den).le l3
  ·rw[yk];exact(h2.num.mul h1.den).le l3
 unfold Kf;exact⟨h1,aH (λe=>⟨h2,aH (λe'=>⟨⟨h1.num.le l,h2.num.le l⟩,Om e e'⟩) λ_=>hr⟩) λ_=>hr⟩
theorem z7:aqJ (cfg []) Ke:=fnq sn bp Tryz.func54 λargs g r hn hc hg hf=>by
 replace hc:a5j args=some (g,r,hn):=hc;unfold a5j at hc;split at hc
 ·cases hc;exact⟨rfl,by kernel_rfl,_,(Ql ..).mpr (Qm _ _ hg)⟩
 ·cases hc
def Kg:CF
 | [.k .q x,.k .q y]=>some (some (Sq BQ x/\Sq BQ y),.k .q (x+y:Rat),[])
 | _=>none
def xK:az:=⟨78,false,Kg⟩
def Wg (x y:Rat):bk:=⟨λkey_=>match key_ with | 3=>8 | 4=>10 | 5=>10 | 6=>5 | 7=>8 | _=>0,nL,nR,nU⟩
def xL (x y:Rat):Prop:=
 let t1:=bW false y.den;
 let t2:=bW false x.den;
 let t3:=x.den/t2.natAbs.gcd t1.natAbs;
 let t4:=y.den/t2.natAbs.gcd t1.natAbs;
 let t5:=x.num*(t4:Int)+y.num*(t3:Int);
 let t6:=t2.natAbs.gcd t1.natAbs;
 let t7:=bW false t6;
 let t8:=x.den/t2.natAbs.gcd t1.natAbs*(y.den/t5.natAbs.gcd t7.natAbs);
 Sq BQ x/\Sm BN x.den/\Sq BQ y/\Sm BN y.den/\(Sm BN t2.natAbs/\Sm BN t1.natAbs)/\Sq BQ x/\(Sm BN x.den/\Sm BN t6/\t2.natAbs.gcd t1.natAbs≠0)/\Sq BQ y /\
 (Sm BN y.den/\Sm BN t6/\t2.natAbs.gcd t1.natAbs≠0)/\(Sm BZ x.num.natAbs/\Sm BZ t4)/\(Sm BZ y.num.natAbs/\Sm BZ t3)/\(Sm BZ (x.num*(t4:Int)).natAbs /\
 Sm BZ (y.num*(t3:Int)).natAbs)/\Sm BN t6/\(Sm BN t5.natAbs/\Sm BN t7.natAbs)/\(Sm BZ t5.natAbs/\Sm BZ (t5.natAbs.gcd t7.natAbs)/\t5.natAbs.gcd t7.natAbs≠(0 :
 Nat)/\t5.natAbs.gcd t7.natAbs∣t5.natAbs)/\Sq BQ y/\(Sm BN y.den/\Sm BN (t5.natAbs.gcd t7.natAbs)/\t5.natAbs.gcd t7.natAbs≠0)/\(Sm BN t3/\Sm BN (y.den /
 t5.natAbs.gcd t7.natAbs))/\(Sm BN t8/\x.den/t2.natAbs.gcd t1.natAbs*(y.den/t5.natAbs.gcd t7.natAbs)≠(0:Nat)/\(t5/(↑(t5.natAbs.gcd t7.natAbs) :
 Int)).natAbs.Coprime t8)/\mkRat (t5/(↑(t5.natAbs.gcd t7.natAbs):Int)) t8=x+y
def Kh (x y:Rat):Prop:=Sq BQ x/\bif decide (x.den=(1:Nat)) then Sq BQ y/\bif decide (y.den=(1:Nat)) then (Sm BZ x.num.natAbs/\Sm BZ y.num.natAbs)/\((0:Nat)=(0:Nat)\/(0:Nat)
 ≠ (1:Nat)/\(x.num+y.num).natAbs.Coprime (0:Nat))/\j6 (x.num+y.num) (0:Nat)=x+y else xL x y else xL x y
theorem Qn (x y:Rat):aw Qj [] (Wg x y) Tryz.f78 (.k .q (x+y:Rat)) [.k .q x,.k .q y]=Kh x y:=by kernel_rfl
theorem Qo (x y:Rat) (hg:Sq BQ x/\Sq BQ y):Kh x y:=by
 obtain⟨h1,h2⟩:=hg;have hr:xL x y:=P0 h1 h2 rfl rfl rfl rfl rfl;have l:BQ<=BZ:=by unfold BQ BZ;omega
 unfold Kh;refine⟨h1,aH (λe=>⟨h2,aH (λe'=>⟨⟨h1.num.le l,h2.num.le l⟩,.inl rfl,?_⟩) λ_=>hr⟩) λ_=>hr⟩;obtain⟨k1,k2⟩:=Ia e e';rw[fN,<-k1];have:=CQ (x+y);rw[k2,Lu] at this;exact this
theorem pI:aqJ (cfg []) xK:=fnq sn bp Tryz.func78 λargs g r hn hc hg hf=>by
 replace hc:Kg args=some (g,r,hn):=hc;unfold Kg at hc;split at hc
 ·cases hc;exact⟨rfl,by kernel_rfl,_,(Qn ..).mpr (Qo _ _ hg)⟩
 ·cases hc
def Ki:CF
 | [.k .q x,.k .q y]=>some (some (Sq BQ x/\Sq BQ y),.k .q (x*y:Rat),[])
 | _=>none
def xM:az:=⟨79,false,Ki⟩
def Wh (x y:Rat):bk:=⟨λkey_=>match key_ with | 3=>7 | 4=>7 | 5=>17 | _=>0,nL,nR,nU⟩
def xN (x y:Rat):Prop:=
 let t1:=y.den/x.num.natAbs.gcd (bW false y.den).natAbs;
 let t2:=bW false x.den;
 let t3:=x.den/y.num.natAbs.gcd t2.natAbs*t1;
 let t4:=y.num.natAbs.gcd t2.natAbs;
 let t5:=x.num.natAbs.gcd (bW false y.den).natAbs;
 Sq BQ y/\Sm BN y.den/\(Sm BN x.num.natAbs/\Sm BN (bW false y.den).natAbs)/\Sq BQ x/\Sm BN x.den/\(Sm BN y.num.natAbs/\Sm BN t2.natAbs)/\(Sm BZ x.num.natAbs/\Sm
 BZ t5/\x.num.natAbs.gcd (bW false y.den).natAbs≠(0:Nat)/\x.num.natAbs.gcd (bW false y.den).natAbs∣x.num.natAbs)/\(Sm BZ y.num.natAbs/\Sm BZ t4 /\
 y.num.natAbs.gcd t2.natAbs≠(0:Nat)/\y.num.natAbs.gcd t2.natAbs∣y.num.natAbs)/\(Sm BZ (x.num/(t5:Int)).natAbs/\Sm BZ (y.num/(t4:Int)).natAbs)/\Sq BQ x
 /\ (Sm BN x.den/\Sm BN t4/\y.num.natAbs.gcd t2.natAbs≠0)/\Sq BQ y/\(Sm BN y.den/\Sm BN t5/\x.num.natAbs.gcd (bW false y.den).natAbs≠0)/\(Sm BN
 (x.den/y.num.natAbs.gcd t2.natAbs)/\Sm BN t1)/\(Sm BN t3/\x.den/y.num.natAbs.gcd t2.natAbs*t1≠(0:Nat)/\(x.num/(t5:Int)*(y.num/(↑t4 :
 Int))).natAbs.Coprime t3)/\mkRat (x.num/(t5:Int)*(y.num/(t4:Int))) t3=x*y
def Kj (x y:Rat):Prop:=Sq BQ x/\bif decide (x.den=(1:Nat)) then Sq BQ y/\bif decide (y.den=(1:Nat)) then (Sm BZ x.num.natAbs/\Sm BZ y.num.natAbs)/\((0:Nat)=(0:Nat)\/(0:Nat)
 ≠ (1:Nat)/\(x.num*y.num).natAbs.Coprime (0:Nat))/\j6 (x.num*y.num) (0:Nat)=x*y else xN x y else xN x y
theorem Qp (x y:Rat):aw Qj [] (Wh x y) Tryz.f79 (.k .q (x*y:Rat)) [.k .q x,.k .q y]=Kj x y:=by kernel_rfl
theorem Qq (x y:Rat) (hg:Sq BQ x/\Sq BQ y):Kj x y:=by
 obtain⟨h1,h2⟩:=hg;have hr:xN x y:=P2 h1 h2 rfl rfl;have l:BQ<=BZ:=by unfold BQ BZ;omega
 unfold Kj;refine⟨h1,aH (λe=>⟨h2,aH (λe'=>⟨⟨h1.num.le l,h2.num.le l⟩,.inl rfl,?_⟩) λ_=>hr⟩) λ_=>hr⟩;obtain⟨k1,k2⟩:=Ib e e';rw[fN,<-k1];have:=CQ (x*y);rw[k2,Lu] at this;exact this
theorem pJ:aqJ (cfg []) xM:=fnq sn bp Tryz.func79 λargs g r hn hc hg hf=>by
 replace hc:Ki args=some (g,r,hn):=hc;unfold Ki at hc;split at hc
 ·cases hc;exact⟨rfl,by kernel_rfl,_,(Qp ..).mpr (Qq _ _ hg)⟩
 ·cases hc
noncomputable def LF5:List az:=xK::xM::Qj
theorem Np:bd LF5:=⟨pI,pJ,sn⟩
def Kk:CF
 | [.k .q x,.k .q y]=>some (some (Sq BQ x/\Sq BQ y),.k .q (x-y:Rat),[])
 | _=>none
def Cb:az:=⟨82,false,Kk⟩
def Wi (x y:Rat):bk:=⟨λkey_=>match key_ with | 1=>3 | _=>0,nL,nR,nU⟩
def Wj (x y:Rat):Prop:=Sq BQ y/\(Sq BQ x/\Sq BQ (-y))/\x + -y=x-y
theorem Qr (x y:Rat):aw LF5 [] (Wi x y) Tryz.f82 (.k .q (x-y:Rat)) [.k .q x,.k .q y]=Wj x y:=by kernel_rfl
theorem Qs (x y:Rat) (hg:Sq BQ x/\Sq BQ y):Wj x y:=by exact⟨hg.2,⟨hg.1,hg.2.neg⟩,(LP x y).symm⟩
theorem tA:aqJ (cfg []) Cb:=fnq Np bp Tryz.func82 λargs g r hn hc hg hf=>by
 replace hc:Kk args=some (g,r,hn):=hc;unfold Kk at hc;split at hc
 ·cases hc;exact⟨rfl,by kernel_rfl,_,(Qr ..).mpr (Qs _ _ hg)⟩
 ·cases hc
def Kl:CF
 | [.k .q x,.k .q y]=>some (some (Sq BQ x/\Sq BQ y),T2 (.k .q (x/y:Rat)) (.k .bool (!decide ((y:Rat)=0))),[])
 | _=>none
def Wk:az:=⟨83,false,Kl⟩
def Wl (x y:Rat):bk:=⟨λkey_=>match key_ with | 3=>11 | _=>0,nL,nR,nU⟩
def Km (x y:Rat):Prop:=
 let t1:=bW (decide (y.num.sign<0)) y.den;
 Sq BQ y/\bif decide (y.num.sign=0) then ((0:Nat)=(0:Nat)\/(0:Nat)≠(1:Nat)/\(Int.natAbs (0:Int)).Coprime (0:Nat))/\j6 (0:Int) (0:Nat) =
 x/y/\false = !decide (y=0) else Sq BQ y/\Sq BQ y/\Sm BN y.den/\(Sm BN y.num.natAbs/\y.num.natAbs≠(0:Nat)/\t1.natAbs.Coprime y.num.natAbs)/\(Sq BQ x
 /\ Sq BQ (mkRat t1 y.num.natAbs))/\x*mkRat t1 y.num.natAbs=x/y/\true = !decide (y=0)
theorem Qv (x y:Rat):aw LF5 [] (Wl x y) Tryz.f83 (T2 (.k .q (x/y:Rat)) (.k .bool (!decide ((y:Rat)=0)))) [.k .q x,.k .q y]=Km x y:=by kernel_rfl
theorem Qw (x y:Rat) (hg:Sq BQ x/\Sq BQ y):Km x y:=by
 obtain⟨h1,h2⟩:=hg;have l:BQ<=BN:=by unfold BQ BN;omega
 unfold Km;intro t1;refine⟨h2,aH (λh=>⟨.inl rfl,?_,?_⟩) λh=>?_⟩
 ·have e:y=0:=Gy.1 (GY.1 h);rw[e,GX,Rat.inv_zero,Lg];exact fN 0
 ·have e:y=0:=Gy.1 (GY.1 h);rw[kx e];rfl
 ·have e:y≠0:=λe=>h (by rw[e];rfl);obtain⟨k1,k2⟩:=ZM e;have hn:y.num≠0:=λe'=>e (Gy.1 e');refine⟨h2,h2,h2.den.le l,⟨h2.num.le l,by omega,k2⟩,⟨h1,?_⟩,?_,?_⟩
  ·rw[show mkRat t1 y.num.natAbs=y⁻¹ from k1];exact h2.inv e
  ·rw[show mkRat t1 y.num.natAbs=y⁻¹ from k1,<-GX]
  ·rw[eJ e];rfl
theorem Qx:aqJ (cfg []) Wk:=fnq Np bp Tryz.func83 λargs g r hn hc hg hf=>by
 replace hc:Kl args=some (g,r,hn):=hc;unfold Kl at hc;split at hc
 ·cases hc;exact⟨rfl,by kernel_rfl,_,(Qv ..).mpr (Qw _ _ hg)⟩
 ·cases hc
theorem Wm {s:Bool} {g m:Nat} (hg:0<g) (h:g∣m):bW s (m/g)=bW s m/(g:Int):=by
 obtain⟨k,rfl⟩:=h;rw[CW _ hg];have fc:(g:Int)≠0:=by omega
 cases s
 ·show((k:Nat):Int)=((g*k:Nat):Int)/(g:Int);rw[Ar,Gi _ fc]
 ·show -((k:Nat):Int) = -((g*k:Nat):Int)/(g:Int);rw[Ar,<-Int.mul_neg,Gi _ fc]
theorem z8 (n:Int) {d:Int} (h:d≠0):mkRat (bW (!(decide (n<0) == decide (d<0))) n.natAbs) d.natAbs=(n:Rat)/(d:Rat):=by
 by_cases hd:d<0
 ·rw[<-Ng n hd];congr 1;unfold bW;by_cases hn:n<0<;>simp[hn,hd]<;>omega
 ·rw[<-mk_pos n hd];congr 1;unfold bW;by_cases hn:n<0<;>simp[hn,hd]<;>omega
theorem tB (n:Int) (d:Nat):(n:Rat)/(((d:Nat):Int):Rat)=mkRat n d:=by rw[<-L9,Mi]
theorem over_self (q:Rat):((q.num:Int):Rat)/(((q.den:Nat):Int):Rat)=q:=by rw[tB,CQ]
theorem mQ {a b:Nat}:0<=bG a b↔b<=a:=by unfold bG;(repeat' split)<;>omega
theorem aow (x:Rat) {y:Rat} (h0:y≠0):((x.num*((y.den:Nat):Int):Int):Rat)/((((x.den:Nat):Int)*y.num:Int):Rat)=x/y:=by
 have hx:=over_self x;have hy:=over_self y;have h1:((x.den:Nat):Rat)≠0:=by rw[ne_eq,Rat.natCast_eq_zero_iff];exact x.den_nz
 have h2:((y.den:Nat):Rat)≠0:=by rw[ne_eq,Rat.natCast_eq_zero_iff];exact y.den_nz
 have h3:((y.num:Int):Rat)≠0:=by rw[ne_eq,Rat.intCast_eq_zero_iff];exact λe=>h0 (Gy.1 e)
 conv=>rhs;rw[<-hx,<-hy]
 rw[Hr,Hr,Rat.intCast_natCast,Rat.intCast_natCast];generalize ((x.num:Int):Rat)=a at *
 generalize ((y.num:Int):Rat)=b at *
 generalize ((x.den:Nat):Rat)=c at *
 generalize ((y.den:Nat):Rat)=d at *
 grind
noncomputable def ZP:List az:=VG::VH::VI::Jx::aa4::VK::[]
theorem Cc:bd ZP:=⟨Py,Pz,PA,zU,VJ,PB,trivial⟩
def frI:CF
 | [.k .bool b,.k .rn n]=>some (none,.k .ri (bW b n),[])
 | _=>none
def crI:az:=⟨37,false,frI⟩
def adh (b:Bool) (n:Nat):bk:=⟨nU,nL,nR,nU⟩
def vrI (b:Bool) (n:Nat):Prop:=bif b then (decide ((0:Int)<(↑(nl n):Int))=true->n≠0)/\bW (decide ((0:Int)<(↑(nl n):Int))) n=bW b n else (false=true->n≠0) /\
 bW false n=bW b n
theorem ZQ (b:Bool) (n:Nat):aw ZP [] (adh b n) Tryz.f37 (.k .ri (bW b n)) [.k .bool b,.k .rn n]=vrI b n:=by kernel_rfl
theorem ZR (b:Bool) (n:Nat) (hf:cJ [.k .bool b,.k .rn n]):vrI b n:=by
 unfold vrI;refine nC (λh=>?_) λh=>?_
 ·subst h;refine⟨λh' e=>?_,?_⟩
  ·have:=(pC n).1 (AD h');omega
  ·rcases iS n with e | e
   ·subst e;cases decide ((0:Int)<((nl 0:Nat):Int))<;>rfl
   ·rw[kx (show(0:Int)<((nl n:Nat):Int) from (pC n).2 e)]
 ·subst h;exact⟨λh=>(by cases h),rfl⟩
theorem Nq:aqJ (cfg []) crI:=cf Cc bp Tryz.func37 λa _ _ _ hc hg hf=>by change frI a=_ at hc;unfold frI at hc;split at hc<;>cases hc;cases aY (ZQ _ _) (ZR _ _ hf);exact⟨rfl,by kernel_rfl,_,by assumption⟩
def a5k:CF
 | [.k .rn a,.k .rn b]=>some (some (Sm BN a/\Sm BN b),.k .rn (Nat.gcd a b),[])
 | _=>none
def Wn:az:=⟨70,false,a5k⟩
def Wo (a b:Nat):bk:=⟨nU,λkey_=>match key_ with
 | 1=>some (⟨Nat×Nat,λp=>[(0,.k .rn p.1),(1,.k .rn p.2)],λ_=>[],λ_ p=>Sm BN p.1/\Sm BN p.2/\Nat.gcd p.1 p.2=Nat.gcd a b,λp=>p.2⟩) | _=>none,nR,nU⟩
def Kn (a b:Nat):Prop:=∃(x0:Nat×Nat),(a=x0.fst/\b=x0.snd)/\(Sm BN x0.fst/\Sm BN x0.snd/\x0.fst.gcd x0.snd=a.gcd b)/\∀(x:Nat×Nat),Sm BN x.fst/\Sm BN x.snd/\x.fst.gcd
 x.snd=a.gcd b->bif decide ((0:Int)<(↑(nl x.snd):Int)) then (Sm BN x.fst/\Sm BN x.snd/\x.snd≠0)/\∃(x':Nat×Nat),(x.snd=x'.fst/\x.fst%x.snd
 = x'.snd)/\(Sm BN x'.fst/\Sm BN x'.snd/\x'.fst.gcd x'.snd=a.gcd b)/\x'.snd<x.snd else x.fst=a.gcd b
theorem Qy (a b:Nat):aw ZP [] (Wo a b) Tryz.f70 (.k .rn (Nat.gcd a b)) [.k .rn a,.k .rn b]=Kn a b:=by kernel_rfl
theorem Qz (a b:Nat) (hg:Sm BN a/\Sm BN b):Kn a b:=by
 unfold Kn;refine⟨(a,b),⟨rfl,rfl⟩,⟨hg.1,hg.2,rfl⟩,λ⟨p,q⟩ ⟨h1,h2,h3⟩=>?_⟩;dsimp only at h1 h2 h3 ⊢;refine aH (λh=>?_) λh=>?_
 ·have hq:=(pC q).1 h;refine⟨⟨h1,h2,by omega⟩,(q,p%q),⟨rfl,rfl⟩,⟨h2,h1.mod _,?_⟩,sC _ hq⟩;rw[<-h3,G7 p q,Mb q p,G7]
 ·have:q=0:=by
   rcases iS q with e | e
   ·exact e
   ·exact absurd ((pC q).2 e) h
  rw[<-h3,this,LR]
theorem QA:aqJ (cfg []) Wn:=cf Cc bp Tryz.func70 λa _ _ _ hc hg hf=>by change a5k a=_ at hc;unfold a5k at hc;split at hc<;>cases hc;cases aY (Qy _ _) (Qz _ _ hg);exact⟨rfl,by kernel_rfl,_,by assumption⟩
noncomputable def FQ:List az:=crI::Wn::ZP
theorem nH:bd FQ:=⟨Nq,QA,Cc⟩
def a3z:CF
 | [.k (.int .i64) n]=>some (some (ax n),.k .ri n,[])
 | _=>none
def FR:az:=⟨31,false,a3z⟩
def Ko (n:Int):bk:=⟨nU,nL,nR,nU⟩
def xO (n:Int):Prop:=bif decide (n<0) then ((0:Int)<=IntKind.u64.wrap ((0:Int)-IntKind.u64.wrap n)/\IntKind.u64.wrap ((0:Int)-IntKind.u64.wrap n)<(18446744073709551616
 : Int))/\bW true (IntKind.u64.wrap ((0:Int)-IntKind.u64.wrap n)).toNat=n else ((0:Int)<=IntKind.u64.wrap n/\IntKind.u64.wrap n<(18446744073709551616:Int))
 /\ bW false (IntKind.u64.wrap n).toNat=n
theorem FT (n:Int):aw FQ [] (Ko n) Tryz.f31 (.k .ri n) [.k (.int .i64) n]=xO n:=by kernel_rfl
theorem FU (n:Int) (hg:ax n):xO n:=by
 unfold xO;have h1 : -9223372036854775808<=n:=hg.1;have h2:n<=9223372036854775807:=hg.2;refine aH (λh=>?_) λh=>?_
 ·have e:IntKind.u64.wrap ((0:Int)-IntKind.u64.wrap n) = -n:=by simp[IntKind.wrap,IntKind.signed,IntKind.bits];omega
  rw[e];refine⟨⟨by omega,by omega⟩,?_⟩;show -((Int.toNat (-n):Nat):Int)=n;omega
 ·have e:IntKind.u64.wrap n=n:=by simp[IntKind.wrap,IntKind.signed,IntKind.bits];omega
  rw[e];refine⟨⟨by omega,by omega⟩,?_⟩;show((Int.toNat n:Nat):Int)=n;omega
theorem FW:aqJ (cfg []) FR:=cf nH bp Tryz.func31 λa _ _ _ hc hg hf=>by change a3z a=_ at hc;unfold a3z at hc;split at hc<;>cases hc;cases aY (FT _) (FU _ hg);exact⟨rfl,by kernel_rfl,_,by assumption⟩
def a1A:CF
 | [.k .ri x]=>some (none,.k (.int .i64) x.sign,[])
 | _=>none
def xP:az:=⟨39,false,a1A⟩
def Cd (x:Int):bk:=⟨nU,nL,nR,nU⟩
def qU (x:Int):Prop:=bif decide ((↑(nl x.natAbs):Int)=0) then (0:Int)=x.sign else bif decide (x<0) then (-1:Int)=x.sign else (1:Int)=x.sign
theorem yT (x:Int):aw FQ [] (Cd x) Tryz.f39 (.k (.int .i64) x.sign) [.k .ri x]=qU x:=by kernel_rfl
theorem yU (x:Int) (hf:cJ [.k .ri x]):qU x:=by
 unfold qU;have hn:=pC x.natAbs;refine aH (λh=>?_) λh=>aH (λh'=>(uZ h').symm) λh'=>?_
 ·have:x=0:=by
   rcases iS x.natAbs with e | e
   ·omega
   ·have:=hn.2 e;omega
  subst this;rfl
 ·refine(xX ?_).symm;have:0<x.natAbs:=hn.1 (by omega);omega
theorem yV:aqJ (cfg []) xP:=cf nH bp Tryz.func39 λa _ _ _ hc hg hf=>by change a1A a=_ at hc;unfold a1A at hc;split at hc<;>cases hc;cases aY (yT _) (yU _ hf);exact⟨rfl,by kernel_rfl,_,by assumption⟩
def tC:CF
 | [.k .ri x]=>(λ(x:Int)=>some (none,.k .ri (-x:Int),[])) x
 | _=>none
def Aa:az:=⟨89,false,tC⟩
def FX (x:Int):bk:=⟨nU,nL,nR,nU⟩
def tD (x:Int):Prop:=bW (!decide (x<0)) x.natAbs = -x
theorem Ce (x:Int):aw FQ [] (FX x) Tryz.f89 (.k .ri (-x:Int)) [.k .ri x]=tD x:=by kernel_rfl
theorem Cf (x:Int) (hf:cJ [.k .ri x]):tD x:=by
 unfold tD bW;by_cases hx:x<0
 ·rw[kx hx];show((x.natAbs:Nat):Int) = -x;omega
 ·rw[eJ hx];show -((x.natAbs:Nat):Int) = -x;omega
theorem Cg:aqJ (cfg []) Aa:=cf nH bp Tryz.func89 λa _ _ _ hc hg hf=>by change tC a=_ at hc;unfold tC at hc;split at hc<;>cases hc;cases aY (Ce _) (Cf _ hf);exact⟨rfl,by kernel_rfl,_,by assumption⟩
def a2B:CF
 | [.k .ri x,.k .ri y]=>some (some (Sm BN x.natAbs/\Sm BN y.natAbs),.k .ri (x+y:Int),[])
 | _=>none
def Ab:az:=⟨34,false,a2B⟩
def FY (x y:Int):bk:=⟨λkey_=>match key_ with | 2=>7 | 4=>7 | 5=>7 | _=>0,nL,nR,nU⟩
def tE (x y:Int):Prop:=bif decide (x<0) == decide (y<0) then (Sm BN x.natAbs/\Sm BN y.natAbs)/\bW (decide (x<0)) (x.natAbs+y.natAbs)=x+y else (Sm BN
 x.natAbs/\Sm BN y.natAbs)/\bif decide ((0:Int)<=bG x.natAbs y.natAbs) then (Sm BN x.natAbs/\y.natAbs<=x.natAbs)/\bW (decide (x<0)) (x.natAbs -
 y.natAbs)=x+y else (Sm BN y.natAbs/\x.natAbs<=y.natAbs)/\bW (decide (y<0)) (y.natAbs-x.natAbs)=x+y
theorem Ch (x y:Int):aw FQ [] (FY x y) Tryz.f34 (.k .ri (x+y:Int)) [.k .ri x,.k .ri y]=tE x y:=by kernel_rfl
theorem Ci (x y:Int) (hg:Sm BN x.natAbs/\Sm BN y.natAbs):tE x y:=by
 unfold tE;obtain⟨h1,h2⟩:=hg;refine nC (λh=>⟨⟨h1,h2⟩,?_⟩) λh=>⟨⟨h1,h2⟩,aH (λh'=>⟨⟨h1,mQ.1 h'⟩,?_⟩) λh'=>?_⟩
 ·unfold bW;by_cases hx:x<0<;>by_cases hy:y<0<;>simp[hx,hy] at h ⊢<;>omega
 ·have h':=mQ.1 h';unfold bW;by_cases hx:x<0<;>by_cases hy:y<0<;>simp[hx,hy] at h ⊢<;>omega
 ·have h':¬y.natAbs<=x.natAbs:=λe=>h' (mQ.2 e);refine⟨⟨h2,by omega⟩,?_⟩;unfold bW;by_cases hx:x<0<;>by_cases hy:y<0<;>simp[hx,hy] at h ⊢<;>omega
theorem Cj:aqJ (cfg []) Ab:=cf nH bp Tryz.func34 λa _ _ _ hc hg hf=>by change a2B a=_ at hc;unfold a2B at hc;split at hc<;>cases hc;cases aY (Ch _ _) (Ci _ _ hg);exact⟨rfl,by kernel_rfl,_,by assumption⟩
def tF:CF
 | [.k .ri x,.k .ri y]=>some (some (Sm BN x.natAbs/\Sm BN y.natAbs),.k .ri (x*y:Int),[])
 | _=>none
def Ac:az:=⟨35,false,tF⟩
def FZ (x y:Int):bk:=⟨λkey_=>match key_ with | 1=>10 | _=>0,nL,nR,nU⟩
def Ad (x y:Int):Prop:=(Sm BN x.natAbs/\Sm BN y.natAbs)/\bW (!decide (x<0) == decide (y<0)) (x.natAbs*y.natAbs)=x*y
theorem Ck (x y:Int):aw FQ [] (FZ x y) Tryz.f35 (.k .ri (x*y:Int)) [.k .ri x,.k .ri y]=Ad x y:=by kernel_rfl
theorem Cl (x y:Int) (hg:Sm BN x.natAbs/\Sm BN y.natAbs):Ad x y:=by exact⟨hg,vL rfl rfl⟩
theorem Cm:aqJ (cfg []) Ac:=cf nH bp Tryz.func35 λa _ _ _ hc hg hf=>by change tF a=_ at hc;unfold tF at hc;split at hc<;>cases hc;cases aY (Ck _ _) (Cl _ _ hg);exact⟨rfl,by kernel_rfl,_,by assumption⟩
def a5l:CF
 | [.k .rq x]=>some (none,.k .ri ((x.den:Nat):Int),[])
 | _=>none
def Wp:az:=⟨36,false,a5l⟩
def Wq (x:Rat):bk:=⟨nU,nL,nR,nU⟩
def Wr (x:Rat):Prop:=bW false x.den=(↑x.den:Int)
theorem QB (x:Rat):aw FQ [] (Wq x) Tryz.f36 (.k .ri ((x.den:Nat):Int)) [.k .rq x]=Wr x:=by kernel_rfl
theorem QC (x:Rat) (hf:cJ [.k .rq x]):Wr x:=by rfl
theorem QD:aqJ (cfg []) Wp:=cf nH bp Tryz.func36 λa _ _ _ hc hg hf=>by change a5l a=_ at hc;unfold a5l at hc;split at hc<;>cases hc;cases aY (QB _) (QC _ hf);exact⟨rfl,by kernel_rfl,_,by assumption⟩
noncomputable def LR3:List az:=FR::xP::Aa::Ab::Ac::Wp::FQ
theorem Nr:bd LR3:=⟨FW,yV,Cg,Cj,Cm,QD,nH⟩
def tG:CF
 | [.k .ri x,.k .ri y]=>some (some (Sm BN x.natAbs/\Sm BN y.natAbs),.k .ri (x-y:Int),[])
 | _=>none
def Ae:az:=⟨119,false,tG⟩
def a5R (x y:Int):bk:=⟨λkey_=>match key_ with | 1=>3 | _=>0,nL,nR,nU⟩
def Af (x y:Int):Prop:=(Sm BN x.natAbs/\Sm BN (-y).natAbs)/\x + -y=x-y
theorem Cn (x y:Int):aw LR3 [] (a5R x y) Tryz.f119 (.k .ri (x-y:Int)) [.k .ri x,.k .ri y]=Af x y:=by kernel_rfl
theorem Co (x y:Int) (hg:Sm BN x.natAbs/\Sm BN y.natAbs):Af x y:=by exact⟨⟨hg.1,hg.2.S8⟩,by omega⟩
theorem Cq:aqJ (cfg []) Ae:=cf Nr bp Tryz.func119 λa _ _ _ hc hg hf=>by change tG a=_ at hc;unfold tG at hc;split at hc<;>cases hc;cases aY (Cn _ _) (Co _ _ hg);exact⟨rfl,by kernel_rfl,_,by assumption⟩
noncomputable def Ws:List az:=Ae::LR3
theorem vp:bd Ws:=⟨Cq,Nr⟩
def tH:CF
 | [.k .ri x,.k .ri y]=>some (some (Sm BN x.natAbs/\Sm BN y.natAbs),.k (.int .i64) (dS x y),[])
 | _=>none
def Ag:az:=⟨96,false,tH⟩
def F3 (x y:Int):bk:=⟨nU,nL,nR,nU⟩
def Ah (x y:Int):Prop:=(Sm BN x.natAbs/\Sm BN y.natAbs)/\(x-y).sign=dS x y
theorem Cr (x y:Int):aw Ws [] (F3 x y) Tryz.f96 (.k (.int .i64) (dS x y)) [.k .ri x,.k .ri y]=Ah x y:=by kernel_rfl
theorem Cs (x y:Int) (hg:Sm BN x.natAbs/\Sm BN y.natAbs):Ah x y:=by
 refine⟨hg,?_⟩;unfold dS;by_cases h:x<y
 ·rw[aV h];exact uZ (by omega)
 ·rw[aI h];by_cases h':x=y
  ·rw[aV h',h',Int.sub_self];rfl
  ·rw[aI h'];exact xX (by omega)
theorem Ct:aqJ (cfg []) Ag:=cf vp bp Tryz.func96 λa _ _ _ hc hg hf=>by change tH a=_ at hc;unfold tH at hc;split at hc<;>cases hc;cases aY (Cr _ _) (Cs _ _ hg);exact⟨rfl,by kernel_rfl,_,by assumption⟩
def Cu:CF
 | [.k .ri n,.k .ri d]=>some (some (Sm BN n.natAbs/\Sm BN d.natAbs/\d≠0),.k .rq ((n:Rat)/(d:Rat)),[])
 | _=>none
def Ns:az:=⟨33,false,Cu⟩
def QE (n d:Int):bk:=⟨nU,nL,nR,nU⟩
def Cv (n d:Int):Prop:=
 let t1:=bW (!decide (n<0) == decide (d<0)) (n.natAbs/n.natAbs.gcd d.natAbs);
 (Sm BN n.natAbs/\Sm BN d.natAbs)/\(Sm BN n.natAbs/\Sm BN (n.natAbs.gcd d.natAbs)/\n.natAbs.gcd d.natAbs≠0)/\(Sm BN d.natAbs/\Sm BN (n.natAbs.gcd d.natAbs)
 /\ n.natAbs.gcd d.natAbs≠0)/\(d.natAbs/n.natAbs.gcd d.natAbs≠(0:Nat)/\t1.natAbs.Coprime (d.natAbs/n.natAbs.gcd d.natAbs))/\mkRat t1 (d.natAbs /
 n.natAbs.gcd d.natAbs)=(↑n:Rat)/(↑d:Rat)
theorem Kq (n d:Int):aw Ws [] (QE n d) Tryz.f33 (.k .rq ((n:Rat)/(d:Rat))) [.k .ri n,.k .ri d]=Cv n d:=by kernel_rfl
theorem Kr (n d:Int) (hg:Sm BN n.natAbs/\Sm BN d.natAbs/\d≠0):Cv n d:=by
 obtain⟨h1,h2,h3⟩:=hg;unfold Cv;intro t1;have hd:0<d.natAbs:=by omega
 have gp:0<n.natAbs.gcd d.natAbs:=CS _ hd;have sg:=zZ (a:=n.natAbs) h2 (by omega);have e:=z8 n h3;have e1:t1=bW (!(decide (n<0) == decide (d<0))) n.natAbs/((n.natAbs.gcd d.natAbs:Nat):Int):=Wm gp (C0 _ _);obtain⟨k1,k2⟩:=qp (bW (!(decide (n<0) == decide (d<0))) n.natAbs) hd;rw[rE] at k1 k2;rw[e] at k1 k2;rw[e1,k1,k2];exact⟨⟨h1,h2⟩,⟨h1,sg,by omega⟩,⟨h2,sg,by omega⟩,⟨Rat.den_nz _,Rat.reduced _⟩,CQ _⟩
theorem Ks:aqJ (cfg []) Ns:=cf vp bp Tryz.func33 λa _ _ _ hc hg hf=>by change Cu a=_ at hc;unfold Cu at hc;split at hc<;>cases hc;cases aY (Kq _ _) (Kr _ _ hg);exact⟨rfl,by kernel_rfl,_,by assumption⟩
def Wt:CF
 | [.k (.int .i64) n]=>some (some (ax n),.k .rq (n:Rat),[])
 | _=>none
def xQ:az:=⟨6,false,Wt⟩
def ZS (n:Int):bk:=⟨nU,nL,nR,nU⟩
def aa6 (n:Int):Prop:=((-9223372036854775808:Int)<=n/\n<=(9223372036854775807:Int))/\((0:Int)<=(1:Int)/\(1:Int)<(18446744073709551616:Int))/\(Int.toNat (1:Int)≠(0 :
 Nat)/\n.natAbs.Coprime (Int.toNat (1:Int)))/\mkRat n (Int.toNat (1:Int))=(↑n:Rat)
theorem Wu (n:Int):aw Ws [] (ZS n) Tryz.f6 (.k .rq (n:Rat)) [.k (.int .i64) n]=aa6 n:=by kernel_rfl
theorem Wv (n:Int) (hg:ax n):aa6 n:=by exact⟨hg,by omega,⟨by decide,by simp⟩,Lu n⟩
theorem mV:aqJ (cfg []) xQ:=cf vp bp Tryz.func6 λa _ _ _ hc hg hf=>by change Wt a=_ at hc;unfold Wt at hc;split at hc<;>cases hc;cases aY (Wu _) (Wv _ hg);exact⟨rfl,by kernel_rfl,_,by assumption⟩
def aiW:CF
 | [.k .rq x]=>(λ(x:Rat)=>some (none,.k .rq (-x:Rat),[])) x
 | _=>none
def ajK:az:=⟨56,false,aiW⟩
def ajL (x:Rat):bk:=⟨λkey_=>match key_ with | 1=>5 | _=>0,nL,nR,nU⟩
def ajM (x:Rat):Prop:=(x.den≠(0:Nat)/\(-x.num).natAbs.Coprime x.den)/\mkRat (-x.num) x.den = -x
theorem ajt (x:Rat):aw Ws [] (ajL x) Tryz.f56 (.k .rq (-x:Rat)) [.k .rq x]=ajM x:=by kernel_rfl
theorem aju (x:Rat) (hf:cJ [.k .rq x]):ajM x:=by refine⟨⟨x.den_nz,by rw[LX];exact x.reduced⟩,?_⟩;exact CQ (-x)
theorem ajv:aqJ (cfg []) ajK:=cf vp bp Tryz.func56 λa _ _ _ hc hg hf=>by change aiW a=_ at hc;unfold aiW at hc;split at hc<;>cases hc;cases aY (ajt _) (aju _ hf);exact⟨rfl,by kernel_rfl,_,by assumption⟩
def anJ:CF
 | [.k .rq x]=>some (none,.k (.int .i64) x.num.sign,[])
 | _=>none
def aoo:az:=⟨9,false,anJ⟩
def aox (x:Rat):bk:=⟨nU,nL,nR,nU⟩
def aor (x:Rat):Prop:=x.num.sign=x.num.sign
theorem aod (x:Rat):aw Ws [] (aox x) Tryz.f9 (.k (.int .i64) x.num.sign) [.k .rq x]=aor x:=by kernel_rfl
theorem aoe (x:Rat) (hf:cJ [.k .rq x]):aor x:=by rfl
theorem aof:aqJ (cfg []) aoo:=cf vp bp Tryz.func9 λa _ _ _ hc hg hf=>by change anJ a=_ at hc;unfold anJ at hc;split at hc<;>cases hc;cases aY (aod _) (aoe _ hf);exact⟨rfl,by kernel_rfl,_,by assumption⟩
noncomputable def Ww:List az:=Ag::Ns::ajK::Ws
theorem vq:bd Ww:=⟨Ct,Ks,ajv,vp⟩
def a4x:CF
 | [.k (.int .i64) n,.k (.int .i64) d]=>some (some (ax n/\ax d/\d≠0),.k .rq ((n:Rat)/(d:Rat)),[])
 | _=>none
def Nt:az:=⟨40,false,a4x⟩
def QF (n d:Int):bk:=⟨nU,nL,nR,nU⟩
def Nu (n d:Int):Prop:=((-9223372036854775808:Int)<=n/\n<=(9223372036854775807:Int))/\((-9223372036854775808:Int)<=d/\d<=(9223372036854775807:Int))/\(Sm BN n.natAbs/\Sm BN
 d.natAbs/\d≠0)/\(↑n:Rat)/(↑d:Rat)=(↑n:Rat)/(↑d:Rat)
theorem Kt (n d:Int):aw Ww [] (QF n d) Tryz.f40 (.k .rq ((n:Rat)/(d:Rat))) [.k (.int .i64) n,.k (.int .i64) d]=Nu n d:=by kernel_rfl
theorem Ku (n d:Int) (hg:ax n/\ax d/\d≠0):Nu n d:=by obtain⟨⟨a1,a2⟩,⟨b1,b2⟩,h3⟩:=hg;exact⟨⟨a1,a2⟩,⟨b1,b2⟩,⟨(Sm.lit (by omega)).le (by unfold BN;omega),(Sm.lit (by omega)).le (by unfold BN;omega),h3⟩,rfl⟩
theorem xR:aqJ (cfg []) Nt:=cf vq bp Tryz.func40 λa _ _ _ hc hg hf=>by change a4x a=_ at hc;unfold a4x at hc;split at hc<;>cases hc;cases aY (Kt _ _) (Ku _ _ hg);exact⟨rfl,by kernel_rfl,_,by assumption⟩
def a5m:CF
 | [.k .rq x,.k .rq y]=>some (some (Sq BQ x/\Sq BQ y),.k .rq (x+y:Rat),[])
 | _=>none
def Kv:az:=⟨8,false,a5m⟩
def Wx (x y:Rat):bk:=⟨λkey_=>match key_ with | 1=>15 | _=>0,nL,nR,nU⟩
def Wy (x y:Rat):Prop:=(Sm BN x.num.natAbs/\Sm BN (↑y.den:Int).natAbs)/\(Sm BN y.num.natAbs/\Sm BN (↑x.den:Int).natAbs)/\(Sm BN (x.num*(↑y.den:Int)).natAbs/\Sm BN (y.num*(↑x.den
 : Int)).natAbs)/\(Sm BN x.den/\Sm BN y.den)/\(Sm BN (x.num*(↑y.den:Int)+y.num*(↑x.den:Int)).natAbs/\Sm BN (bW false (x.den*y.den)).natAbs/\bW false
 (x.den*y.den)≠0)/\(↑(x.num*(↑y.den:Int)+y.num*(↑x.den:Int)):Rat)/(↑(bW false (x.den*y.den)):Rat)=x+y
theorem QG (x y:Rat):aw Ww [] (Wx x y) Tryz.f8 (.k .rq (x+y:Rat)) [.k .rq x,.k .rq y]=Wy x y:=by kernel_rfl
theorem QH (x y:Rat) (hg:Sq BQ x/\Sq BQ y):Wy x y:=by
 obtain⟨h1,h2⟩:=hg;have l:BQ<=BN:=by unfold BQ BN;omega
 have l2:BQ+BQ+1<=BN:=by unfold BQ BN;omega
 have p1:Sm (BQ+BQ) (x.num*((y.den:Nat):Int)).natAbs:=by rw[yk];exact h1.num.mul h2.den
 have p2:Sm (BQ+BQ) (y.num*((x.den:Nat):Int)).natAbs:=by rw[yk];exact h2.num.mul h1.den
 refine⟨⟨h1.num.le l,h2.den.le l⟩,⟨h2.num.le l,h1.den.le l⟩,⟨p1.le (by omega),p2.le (by omega)⟩,⟨h1.den.le l,h2.den.le l⟩,⟨(p1.S7 p2).le (by omega),(h1.den.mul h2.den).le (by omega),?_⟩,?_⟩
 ·have:=EX x.den_pos y.den_pos;show((x.den*y.den:Nat):Int)≠0;omega
 ·exact(tB _ (x.den*y.den)).trans (Ml x y).symm
theorem Ai:aqJ (cfg []) Kv:=cf vq bp Tryz.func8 λa _ _ _ hc hg hf=>by change a5m a=_ at hc;unfold a5m at hc;split at hc<;>cases hc;cases aY (QG _ _) (QH _ _ hg);exact⟨rfl,by kernel_rfl,_,by assumption⟩
def Kw:CF
 | [.k .rq x,.k .rq y]=>some (some (Sq BQ x/\Sq BQ y),.k .rq (x*y:Rat),[])
 | _=>none
def Kx:az:=⟨57,false,Kw⟩
def Wz (x y:Rat):bk:=⟨λkey_=>match key_ with | 1=>9 | _=>0,nL,nR,nU⟩
def WA (x y:Rat):Prop:=(Sm BN x.num.natAbs/\Sm BN y.num.natAbs)/\(Sm BN x.den/\Sm BN y.den)/\(Sm BN (x.num*y.num).natAbs/\Sm BN (bW false (x.den*y.den)).natAbs/\bW false (x.den *
 y.den)≠0)/\(↑(x.num*y.num):Rat)/(↑(bW false (x.den*y.den)):Rat)=x*y
theorem QI (x y:Rat):aw Ww [] (Wz x y) Tryz.f57 (.k .rq (x*y:Rat)) [.k .rq x,.k .rq y]=WA x y:=by kernel_rfl
theorem QJ (x y:Rat) (hg:Sq BQ x/\Sq BQ y):WA x y:=by
 obtain⟨h1,h2⟩:=hg;have l:BQ<=BN:=by unfold BQ BN;omega
 have l2:BQ+BQ<=BN:=by unfold BQ BN;omega
 refine⟨⟨h1.num.le l,h2.num.le l⟩,⟨h1.den.le l,h2.den.le l⟩,⟨(by rw[yk];exact(h1.num.mul h2.num).le l2),(h1.den.mul h2.den).le l2,?_⟩,?_⟩
 ·have:=EX x.den_pos y.den_pos;show((x.den*y.den:Nat):Int)≠0;omega
 ·exact(tB _ (x.den*y.den)).trans (Mm x y).symm
theorem Aj:aqJ (cfg []) Kx:=cf vq bp Tryz.func57 λa _ _ _ hc hg hf=>by change Kw a=_ at hc;unfold Kw at hc;split at hc<;>cases hc;cases aY (QI _ _) (QJ _ _ hg);exact⟨rfl,by kernel_rfl,_,by assumption⟩
def aog:CF
 | [.k .rq x,.k .rq y]=>some (some (Sq BQ x/\Sq BQ y/\y≠0),.k .rq (x/y:Rat),[])
 | _=>none
def aoL:az:=⟨10,false,aog⟩
def aoM (x y:Rat):bk:=⟨λkey_=>match key_ with | 1=>9 | _=>0,nL,nR,nU⟩
def aoN (x y:Rat):Prop:=(Sm BN x.num.natAbs/\Sm BN (↑y.den:Int).natAbs)/\(Sm BN (↑x.den:Int).natAbs/\Sm BN y.num.natAbs)/\(Sm BN (x.num*(↑y.den:Int)).natAbs/\Sm BN ((↑x.den:Int) *
 y.num).natAbs/\(↑x.den:Int)*y.num≠0)/\(↑(x.num*(↑y.den:Int)):Rat)/(↑((↑x.den:Int)*y.num):Rat)=x/y
theorem aoy (x y:Rat):aw Ww [] (aoM x y) Tryz.f10 (.k .rq (x/y:Rat)) [.k .rq x,.k .rq y]=aoN x y:=by kernel_rfl
theorem aoz (x y:Rat) (hg:Sq BQ x/\Sq BQ y/\y≠0):aoN x y:=by
 obtain⟨h1,h2,h0⟩:=hg;have l:BQ<=BN:=by unfold BQ BN;omega
 have l2:BQ+BQ<=BN:=by unfold BQ BN;omega
 refine⟨⟨h1.num.le l,h2.den.le l⟩,⟨h1.den.le l,h2.num.le l⟩,⟨(by rw[yk];exact(h1.num.mul h2.den).le l2),(by rw[yk];exact(h1.den.mul h2.num).le l2),?_⟩,aow x h0⟩;exact Int.mul_ne_zero (by have:=x.den_pos;omega) λe=>h0 (Gy.1 e)
theorem aoA:aqJ (cfg []) aoL:=cf vq bp Tryz.func10 λa _ _ _ hc hg hf=>by change aog a=_ at hc;unfold aog at hc;split at hc<;>cases hc;cases aY (aoy _ _) (aoz _ _ hg);exact⟨rfl,by kernel_rfl,_,by assumption⟩
def Ky:CF
 | [.k .rq x,.k .rq y]=>some (some (Sq BQ x/\Sq BQ y),.k (.int .i64) (fS x y:Int),[])
 | _=>none
def Kz:az:=⟨62,false,Ky⟩
def WB (x y:Rat):bk:=⟨λkey_=>match key_ with | 1=>9 | _=>0,nL,nR,nU⟩
def WC (x y:Rat):Prop:=(Sm BN x.num.natAbs/\Sm BN (↑y.den:Int).natAbs)/\(Sm BN y.num.natAbs/\Sm BN (↑x.den:Int).natAbs)/\(Sm BN (x.num*(↑y.den:Int)).natAbs/\Sm BN (y.num*(↑x.den
 : Int)).natAbs)/\dS (x.num*(↑y.den:Int)) (y.num*(↑x.den:Int))=fS x y
theorem QK (x y:Rat):aw Ww [] (WB x y) Tryz.f62 (.k (.int .i64) (fS x y:Int)) [.k .rq x,.k .rq y]=WC x y:=by kernel_rfl
theorem QL (x y:Rat) (hg:Sq BQ x/\Sq BQ y):WC x y:=by
 obtain⟨h1,h2⟩:=hg;have l:BQ<=BN:=by unfold BQ BN;omega
 have l2:BQ+BQ<=BN:=by unfold BQ BN;omega
 exact⟨⟨h1.num.le l,h2.den.le l⟩,⟨h2.num.le l,h1.den.le l⟩,⟨(by rw[yk];exact(h1.num.mul h2.den).le l2),(by rw[yk];exact(h2.num.mul h1.den).le l2)⟩,ot x y⟩
theorem Ak:aqJ (cfg []) Kz:=cf vq bp Tryz.func62 λa _ _ _ hc hg hf=>by change Ky a=_ at hc;unfold Ky at hc;split at hc<;>cases hc;cases aY (QK _ _) (QL _ _ hg);exact⟨rfl,by kernel_rfl,_,by assumption⟩
noncomputable def LR6:List az:=Kv::Ww
theorem aj3:bd LR6:=⟨Ai,vq⟩
def aiY:CF
 | [.k .rq x,.k .rq y]=>some (some (Sq BQ x/\Sq BQ y),.k .rq (x-y:Rat),[])
 | _=>none
def ajN:az:=⟨21,false,aiY⟩
def ajO (x y:Rat):bk:=⟨λkey_=>match key_ with | 1=>3 | _=>0,nL,nR,nU⟩
def ajP (x y:Rat):Prop:=(Sq BQ x/\Sq BQ (-y))/\x + -y=x-y
theorem ajw (x y:Rat):aw LR6 [] (ajO x y) Tryz.f21 (.k .rq (x-y:Rat)) [.k .rq x,.k .rq y]=ajP x y:=by kernel_rfl
theorem ajx (x y:Rat) (hg:Sq BQ x/\Sq BQ y):ajP x y:=by exact⟨⟨hg.1,hg.2.neg⟩,(LP x y).symm⟩
theorem ajy:aqJ (cfg []) ajN:=cf aj3 bp Tryz.func21 λa _ _ _ hc hg hf=>by change aiY a=_ at hc;unfold aiY at hc;split at hc<;>cases hc;cases aY (ajw _ _) (ajx _ _ hg);exact⟨rfl,by kernel_rfl,_,by assumption⟩
end Go.Proofs.YtlijkeolpmgioaaGreatDoor.AM
namespace Go.Proofs.YtlijkeolpmgioaaGreatDoor
open Go.RowKit
theorem F4 (n:Nat) (hn:bl n<=549755813888) (w:World) :
  Calls Tryz.prog 66 #[.agg #[.int .u64 (lo (n):Nat),.string (hi (n))]] w (cA (bJ n) w):=by
 have HB:Hid (∀W,Calls Tryz.prog 101 #[.agg #[.int .u64 (lo (n):Nat),.string (hi (n))]] W (cA (jQ (gR n)) W)):=aad (λW=>(xn n hn W).mono λ_ _ ⟨v,h1,h2,h3⟩=>⟨v,h1,jQ.Ug (by rw[b9];unfold nb;omega) h2,h3⟩)
 have HF:Hid (∀W u,jQ (gR n) u W->Calls Tryz.prog 100 #[u] W (cA (bJ n) W)):=aad (λW u h=>by have h:=Bt (gR n) u W (by rw[b9];unfold nb;omega) h;rw[wX] at h;exact h)
 clear hn
 generalize lo n=la at *
 generalize hi n=sa at *
 go_enter Tryz.func66,Tryz.ntmps66
 go_wp2_with fail
 have hx:Ext w (w.alloc (.cells #[.int .u64 ((la:Nat):Int),.string sa] 51)):=(Ext.refl w).alloc _
 have HX:=aad hx
 clear hx
 refine(HB.out _).mono ?_
 rintro e w1 ⟨v1,rfl,fj,bU⟩
 have I0:=aad fj
 have HX1:=aad bU
 clear fj bU
 go_wp2_with fail
 refine(HF.out _ _ I0.out).mono ?_
 rintro e w3 ⟨v3,rfl,WD,hx3⟩
 have HV3:=aad WD
 clear WD
 go_wp2
 go_ret
 exact⟨_,rfl,HV3.out,(HX.out.trans HX1.out).trans hx3⟩
end Go.Proofs.YtlijkeolpmgioaaGreatDoor
namespace Go.Proofs.YtlijkeolpmgioaaGreatDoor.AM
open Go.RowKit
def Al:az:=⟨66,false,on1 .nat N1 λx=>.k .rn (x:Nat)⟩
theorem Cw:aqJ (cfg []) Al:=nB (enters_of Tryz.func66 (by kernel_rfl) rfl) (λ_=>rfl) λF x u w hg ht hu=>by obtain rfl:=hu.aYa;have hg:Sm BN x:=hg;exact xF (F4 x (by unfold Sm BN at hg;omega) w)
theorem F5 (n:Int) {m:Int} (hm:0<m) : -m<n.tmod m/\n.tmod m<m/\n.tmod m%m=n%m:=by
 refine⟨Int.lt_tmod_of_pos n hm,Int.tmod_lt_of_pos n hm,?_⟩;have h:=Int.tmod_add_mul_tdiv n m;conv=>rhs;rw[<-h]
 rw[Int.add_mul_emod_self_left]
theorem nI {a b:Nat}:bG a b=0↔a=b:=by unfold bG;(repeat' split)<;>omega
theorem QM {x y:Rat} (h1:x.num=y.num) (h2:x.den=y.den):x=y:=by rw[<-CQ x,<-CQ y,h1,h2]
theorem Sq.ratio {k:Nat} {n d:Int} (hn:Sm k n.natAbs) (hd:Sm k d.natAbs) (h0:d≠0):Sq k ((n:Rat)/(d:Rat)):=by rw[<-z8 n h0];exact H9 (by omega) (by rw[rE];exact hn) hd
noncomputable def WE:List az:=VM::Al::sj::JA::vn::crI::V6::J4::No::xQ::Nt::Jx::[]
theorem vr:bd WE:=⟨PC,Cw,nG,zV,qT,Nq,P7,z6,Kc,mV,xR,zU,trivial⟩
def a4y:CF
 | [.k (.int .i64) n,.k (.int .i64) m]=>some (some (ax n/\0<m/\m<=9223372036854775807),.k (.int .i64) (n%m:Int),[])
 | _=>none
def Cy:az:=⟨7,false,a4y⟩
def QN (n m:Int):bk:=⟨nU,nL,nR,nU⟩
def Cz (n m:Int):Prop:=m≠(0:Int)/\bif decide (n.tmod m<0) then ax (n.tmod m+m)/\n.tmod m+m=n%m else n.tmod m=n%m
theorem KA (n m:Int):aw WE [] (QN n m) Tryz.f7 (.k (.int .i64) (n%m:Int)) [.k (.int .i64) n,.k (.int .i64) m]=Cz n m:=by kernel_rfl
theorem KB (n m:Int) (hg:ax n/\0<m/\m<=9223372036854775807):Cz n m:=by
 obtain⟨⟨h1,h2⟩,h3,h4⟩:=hg;obtain⟨a1,a2,a3⟩:=F5 n h3;unfold Cz;refine⟨by omega,aH (λh=>⟨⟨by omega,by omega⟩,?_⟩) λh=>?_⟩
 ·rw[<-a3,<-Int.add_emod_right,Int.emod_eq_of_lt (by omega) (by omega)]
 ·rw[<-a3,Int.emod_eq_of_lt (by omega) (by omega)]
theorem nJ:aqJ (cfg []) Cy:=cf vr bp Tryz.func7 λa _ _ _ hc hg hf=>by change a4y a=_ at hc;unfold a4y at hc;split at hc<;>cases hc;cases aY (KA _ _) (KB _ _ hg);exact⟨rfl,by kernel_rfl,_,by assumption⟩
def a5n:CF
 | [.k .ri x]=>some (some (Sm BN x.natAbs),.k .z x,[])
 | _=>none
def WG:az:=⟨59,false,a5n⟩
def WH (x:Int):bk:=⟨λkey_=>match key_ with | 1=>5 | _=>0,nL,nR,nU⟩
def WI (x:Int):Prop:=Sm BN x.natAbs/\Sm BN x.natAbs/\bW (decide (x<0)) x.natAbs=x
theorem QO (x:Int):aw WE [] (WH x) Tryz.f59 (.k .z x) [.k .ri x]=WI x:=by kernel_rfl
theorem QP (x:Int) (hg:Sm BN x.natAbs):WI x:=by exact⟨hg,hg,kS x⟩
theorem QQ:aqJ (cfg []) WG:=cf vr bp Tryz.func59 λa _ _ _ hc hg hf=>by change a5n a=_ at hc;unfold a5n at hc;split at hc<;>cases hc;cases aY (QO _) (QP _ hg);exact⟨rfl,by kernel_rfl,_,by assumption⟩
def a2F:CF
 | [.k .z x]=>some (some (Sm BN x.natAbs),.k .ri x,[])
 | _=>none
def Am:az:=⟨64,false,a2F⟩
def F6 (x:Int):bk:=⟨λkey_=>match key_ with | 1=>4 | _=>0,nL,nR,nU⟩
def An (x:Int):Prop:=Sm BN x.natAbs/\Sm BN x.natAbs/\bW (decide (x.sign<0)) x.natAbs=x
theorem CA (x:Int):aw WE [] (F6 x) Tryz.f64 (.k .ri x) [.k .z x]=An x:=by kernel_rfl
theorem CB (x:Int) (hg:Sm BN x.natAbs):An x:=by refine⟨hg,hg,?_⟩;rw[yw.2 (show x.sign<0↔x<0 from C1)];exact kS x
theorem CC:aqJ (cfg []) Am:=cf vr bp Tryz.func64 λa _ _ _ hc hg hf=>by change a2F a=_ at hc;unfold a2F at hc;split at hc<;>cases hc;cases aY (CA _) (CB _ hg);exact⟨rfl,by kernel_rfl,_,by assumption⟩
noncomputable def ZT:List az:=WG::Am::WE
theorem CD:bd ZT:=⟨QQ,CC,vr⟩
def a6i:CF
 | [.k .rq x]=>some (some (Sq BQ x),.k .q x,[])
 | _=>none
def aa7:az:=⟨24,false,a6i⟩
def ZU (x:Rat):bk:=⟨λkey_=>match key_ with | 1=>12 | _=>0,nL,nR,nU⟩
def aa8 (x:Rat):Prop:=Sm BN x.num.natAbs/\Sm BN x.den/\Sm BN x.den/\(Sm BZ x.num.natAbs/\Sm BZ (bW false x.den).natAbs/\bW false x.den≠0)/\(↑x.num:Rat)/(↑(bW false
 x.den):Rat)=x
theorem WJ (x:Rat):aw ZT [] (ZU x) Tryz.f24 (.k .q x) [.k .rq x]=aa8 x:=by kernel_rfl
theorem WK (x:Rat) (hg:Sq BQ x):aa8 x:=by
 have l:BQ<=BN:=by unfold BQ BN;omega
 have l2:BQ<=BZ:=by unfold BQ BZ;omega
 refine⟨hg.num.le l,hg.den.le l,hg.den.le l,⟨hg.num.le l2,hg.den.le l2,?_⟩,over_self x⟩;have:=x.den_pos;show((x.den:Nat):Int)≠0;omega
theorem WL:aqJ (cfg []) aa7:=cf CD bp Tryz.func24 λa _ _ _ hc hg hf=>by change a6i a=_ at hc;unfold a6i at hc;split at hc<;>cases hc;cases aY (WJ _) (WK _ hg);exact⟨rfl,by kernel_rfl,_,by assumption⟩
def a5o:CF
 | [.k .q x]=>some (some (Sq BQ x),.k .rq x,[])
 | _=>none
def WM:az:=⟨29,false,a5o⟩
def WN (x:Rat):bk:=⟨λkey_=>match key_ with | 1=>4 | _=>0,nL,nR,nU⟩
def WO (x:Rat):Prop:=Sm BN x.num.natAbs/\Sq BQ x/\Sm BN x.den/\Tg x.num x.den/\mkRat x.num x.den=x
theorem QS (x:Rat):aw ZT [] (WN x) Tryz.f29 (.k .rq x) [.k .q x]=WO x:=by kernel_rfl
theorem QT (x:Rat) (hg:Sq BQ x):WO x:=by
 have l:BQ<=BN:=by unfold BQ BN;omega
 exact⟨hg.num.le l,hg,hg.den.le l,⟨x.den_nz,x.reduced⟩,CQ x⟩
theorem QU:aqJ (cfg []) WM:=cf CD bp Tryz.func29 λa _ _ _ hc hg hf=>by change a5o a=_ at hc;unfold a5o at hc;split at hc<;>cases hc;cases aY (QS _) (QT _ hg);exact⟨rfl,by kernel_rfl,_,by assumption⟩
noncomputable def LH3:List az:=WM::ZT
theorem Nv:bd LH3:=⟨QU,CD⟩
def a4z:CF
 | [.k .q x,.k .rq y]=>some (some (Sq BQ x/\Sq BQ y),.k .bool (decide (x=y)),[])
 | _=>none
def CE:az:=⟨77,false,a4z⟩
def QV (x y:Rat):bk:=⟨nU,nL,nR,nU⟩
def CG (x y:Rat):Prop:=Sq BQ x/\bif decide ((↑(nl y.den):Int)=0) then ax (0:Int)/\(Sm BN x.num.natAbs/\Sm BN (↑(0:Int):Rat).num.natAbs)/\bif decide (bG x.num.natAbs
 (↑(0:Int):Rat).num.natAbs=0) then bif decide (x.num<0) == decide ((↑(0:Int):Rat).num<0) then (Sm BN x.den/\Sm BN (↑(0:Int) :
 Rat).den)/\decide (bG x.den (↑(0:Int):Rat).den=0)=decide (x=y) else false=decide (x=y) else false=decide (x=y) else (Sm BN x.num.natAbs/\Sm
 BN y.num.natAbs)/\bif decide (bG x.num.natAbs y.num.natAbs=0) then bif decide (x.num<0) == decide (y.num<0) then (Sm BN x.den/\Sm BN
 y.den)/\decide (bG x.den y.den=0)=decide (x=y) else false=decide (x=y) else false=decide (x=y)
theorem KC (x y:Rat):aw LH3 [] (QV x y) Tryz.f77 (.k .bool (decide (x=y))) [.k .q x,.k .rq y]=CG x y:=by kernel_rfl
theorem KD (x y:Rat) (hg:Sq BQ x/\Sq BQ y):CG x y:=by
 obtain⟨h1,h2⟩:=hg;have l:BQ<=BN:=by unfold BQ BN;omega
 have hn:=(pC y.den).2 y.den_pos;unfold CG;refine⟨h1,aH (λh=>by omega) λ_=>⟨⟨h1.num.le l,h2.num.le l⟩,aH (λh=>nC (λh'=>⟨⟨h1.den.le l,h2.den.le l⟩,yw.2 ⟨λe=>?_,λe=>?_⟩⟩) λh'=>?_) λh=>?_⟩⟩
 ·have e1:=nI.1 h;have e2:decide (x.num<0)=decide (y.num<0):=by simpa using h'
  refine QM ?_ (nI.1 e);rw[<-kS x.num,<-kS y.num,e1,e2]
 ·rw[e];exact nI.2 rfl
 ·refine(eJ λe=>?_).symm;rw[e] at h';simp at h'
 ·refine(eJ λe=>h ?_).symm;rw[e];exact nI.2 rfl
theorem xS:aqJ (cfg []) CE:=cf Nv bp Tryz.func77 λa _ _ _ hc hg hf=>by change a4z a=_ at hc;unfold a4z at hc;split at hc<;>cases hc;cases aY (KC _ _) (KD _ _ hg);exact⟨rfl,by kernel_rfl,_,by assumption⟩
noncomputable def LH4:List az:=CE::LH3
theorem ZV:bd LH4:=⟨xS,Nv⟩
def a6j:CF
 | [.k .q x,.k (.int .i64) n,.k (.int .i64) d]=>some (some (Sq BQ x/\ax n/\ax d/\d≠0),.k .bool (decide (x=(n:Rat)/(d:Rat))),[])
 | _=>none
def aa9:az:=⟨43,false,a6j⟩
def ZW (x:Rat) (n d:Int):bk:=⟨λkey_=>match key_ with | 1=>4 | _=>0,nL,nR,nU⟩
def aba (x:Rat) (n d:Int):Prop:=(ax n/\ax d/\d≠0)/\(Sq BQ x/\Sq BQ ((↑n:Rat)/(↑d:Rat)))/\decide (x=(↑n:Rat)/(↑d:Rat))=decide (x=(↑n:Rat)/(↑d:Rat))
theorem WQ (x:Rat) (n d:Int):aw LH4 [] (ZW x n d) Tryz.f43 (.k .bool (decide (x=(n:Rat)/(d:Rat)))) [.k .q x,.k (.int .i64) n,.k (.int .i64) d]=aba x n d:=by kernel_rfl
theorem WR (x:Rat) (n d:Int) (hg:Sq BQ x/\ax n/\ax d/\d≠0):aba x n d:=by obtain⟨h1,⟨a1,a2⟩,⟨b1,b2⟩,h4⟩:=hg;exact⟨⟨⟨a1,a2⟩,⟨b1,b2⟩,h4⟩,⟨h1,(Sq.ratio (k:=64) (Sm.lit (by omega)) (Sm.lit (by omega)) h4).le (by unfold BQ;omega)⟩,rfl⟩
theorem WS:aqJ (cfg []) aa9:=cf ZV bp Tryz.func43 λa _ _ _ hc hg hf=>by change a6j a=_ at hc;unfold a6j at hc;split at hc<;>cases hc;cases aY (WQ _ _ _) (WR _ _ _ hg);exact⟨rfl,by kernel_rfl,_,by assumption⟩
theorem QW {w w':World} (h:fm (λ_=>False) w w'):Ext w w':=⟨h.os,h.tape,h.output,h.size,λi hi=>h.block i hi id⟩
theorem qV {ct:az} (h:aqJ (cfg []) ct) {args:List AV} {g:Option Prop} {r:AV} (hc:ct.c args=some (g,r,[])) (hg:bt g) (hr:r.owns=false) {w:World} {vs:List Value} (ht:cK w) (hv:VL (λ_=>True) w dX args vs) :
  Calls Tryz.prog ct.f vs.toArray w (λe w'=>∃v,e = .returned v/\Ext w w'/\aq (λ_=>True) w' dX r v):=by
 refine Calls.mono (h.ok args g r [] hc hg (λ_=>True) w vs ht hv) λe w' ⟨v, β',h1,h2,h3⟩=>⟨v,h1,QW h2.fr,h3.aqK (.aO (Ext.refl w')) (λ_ _ _=>trivial) λid hu=>?_⟩
 exact absurd hu (by rw[aCh id hr];simp)
theorem aq.abb {ok:Nat->Prop} {w:World} {β:Bm} {x:Rat} {v:Value} (h:∃A c B d,v = .agg #[.bool (decide (x.num<0)),.slice A (nl x.num.natAbs) c,.slice B (nl x.den) d]/\bJ x.num.natAbs (.slice A (nl x.num.natAbs) c) w/\bJ x.den (.slice B (nl x.den) d) w):aq ok w β (.k .rq x) v:=by obtain⟨A,c,B,d,rfl,h1,h2⟩:=h;exact⟨_,⟨_,_,rfl,h1,h2⟩,rfl⟩
theorem aq.rqv {ok:Nat->Prop} {w:World} {β:Bm} {x:Rat} {v:Value} (h:aq ok w β (.k .rq x) v):∃A c B d,v = .agg #[.bool (decide (x.num<0)),.slice A (nl x.num.natAbs) c,.slice B (nl x.den) d]/\bJ x.num.natAbs (.slice A (nl x.num.natAbs) c) w/\bJ x.den (.slice B (nl x.den) d) w:=by obtain⟨c,⟨u,v',rfl,h1,h2⟩,hv⟩:=h;obtain⟨A,c,e1⟩:=h1.form;obtain⟨B,d,e2⟩:=h2.form;subst e1;subst e2;exact⟨A,c,B,d,hv,h1,h2⟩
def dd (j:Int):Int:=if j=3 then 2 else if j=4 then 3 else if j=5 then 4 else 1
theorem Nw (j:Int):1<=dd j/\dd j<=4:=by unfold dd;(repeat' split)<;>omega
def hR (n:Int):Rat:=((n%41-20:Int):Rat)/((dd (n.tdiv 41%6):Int):Rat)
theorem KE (n:Int):Sq 64 (hR n):=by have h:=Nw (n.tdiv 41%6);exact Sq.ratio (Sm.lit (by omega)) (Sm.lit (by omega)) (by omega)
theorem Nx {n:Int} (h:ax n):ax (n.tdiv 41):=by
 obtain⟨h1,h2⟩:=h;rcases Int.lt_or_le n 0 with h0 | h0
 ·obtain⟨m,rfl⟩:∃m:Int,n = -m:=⟨-n,by omega⟩
  rw[Int.neg_tdiv,Ht (by omega)];constructor<;>omega
 ·rw[Ht h0];constructor<;>omega
theorem mW {w w':World} (h:cK w) (e:Ext w w'):cK w':=h.ext e
theorem QX {w:World} {j:Int} (hj:0<=j/\j<6):(Instr.index 86 (.agg #[.int .i64 1,.int .i64 1,.int .i64 1,.int .i64 2,.int .i64 3,.int .i64 4]) (.int .i64 j)).run Tryz.prog w = .ok (.int .i64 (dd j)) w:=by
 obtain⟨j,rfl⟩:=Gm hj.1;have hs:(Tryz.prog.info? 2).map (·.size)=some 1:=by kernel_rfl
 obtain⟨inf,hi,br⟩:=kJ.1 hs;rcases j with _ | _ | _ | _ | _ | _ | j
 all_goals first | omega | simp[Instr.index,asIntOf,run_underlying Tryz.underlying86,run_underlying Tryz.underlying2,sizeOf,typeInfo,hi,br,part,dd,isAgg]
theorem ZX {w w':World} {g:Nat} {t:TypeId} {cs:List Value} (h:ar w g t cs) (hb:∀v∈cs,bf v=true) (k:bS g w w'):Kp (λ_=>False) w w':=
 ⟨k.size,λi hi ho=>by
  rcases ho with h' | ⟨j,v,h1,h2⟩
  ·exact h'.elim
  ·refine k.block i hi λe=>?_;injection e with e
   subst e;rw[h.cell] at h1;rw[hb v (yj h1)] at h2
   cases h2⟩
set_option maxRecDepth 20000 in
theorem KF (n:Int) (hn:ax n) (w:World) (ht:cK w):Calls Tryz.prog 11 #[.int .i64 n] w (λe w'=>∃v,e = .returned v/\Ext w w'/\aq (λ_=>True) w' dX (.k .rq (hR n)) v):=by
 have HP1:Hid (∀W,cK W->Calls Tryz.prog 7 #[.int .i64 n,.int .i64 41] W (cg (.int .i64 (n%41)) W)):=aad λW hT=>(qV nJ (args:=[.k (.int .i64) n,.k (.int .i64) (41:Int)]) (vs:=[.int .i64 n,.int .i64 41]) rfl ⟨hn,by decide,by decide⟩ rfl hT ⟨.mkInt _ _,.mkInt _ _,trivial⟩).mono λe w' ⟨v,h1,h2,h3⟩=>by obtain rfl:=h3.int;exact⟨h1,h2⟩
 have HP2:Hid (∀W,cK W->Calls Tryz.prog 7 #[.int .i64 (n.tdiv 41),.int .i64 6] W (cg (.int .i64 (n.tdiv 41%6)) W)):=aad λW hT=>(qV nJ (args:=[.k (.int .i64) (n.tdiv 41),.k (.int .i64) (6:Int)]) (vs:=[.int .i64 (n.tdiv 41),.int .i64 6]) rfl ⟨Nx hn,by decide,by decide⟩ rfl hT ⟨.mkInt _ _,.mkInt _ _,trivial⟩).mono λe w' ⟨v,h1,h2,h3⟩=>by obtain rfl:=h3.int;exact⟨h1,h2⟩
 have hd:=Nw (n.tdiv 41%6);have q1:ax (n%41-20):=⟨by omega,by omega⟩
 have q2:ax (dd (n.tdiv 41%6)):=⟨by omega,by omega⟩
 have q3:dd (n.tdiv 41%6)≠0:=by omega
 have HO:Hid (∀W,cK W->Calls Tryz.prog 40 #[.int .i64 (n%41-20),.int .i64 (dd (n.tdiv 41%6))] W (λe w'=>∃v,e = .returned v/\Ext W w'/\aq (λ_=>True) w' dX (.k .rq (hR n)) v)):=aad λW hT=>qV xR (args:=[.k (.int .i64) (n%41-20),.k (.int .i64) (dd (n.tdiv 41%6))]) (vs:=[.int .i64 (n%41-20),.int .i64 (dd (n.tdiv 41%6))]) rfl ⟨q1,q2,q3⟩ rfl hT ⟨.mkInt _ _,.mkInt _ _,trivial⟩;have e1:IntKind.i64.wrap (n%41-20)=n%41-20:=by rw[IntKind.wrap_i64];omega
 have e2:IntKind.i64.wrap (n.tdiv 41)=n.tdiv 41:=by obtain⟨h1,h2⟩:=Nx hn;rw[IntKind.wrap_i64];omega
 have HT:=aad ht;have h6:0<=n.tdiv 41%6/\n.tdiv 41%6<6:=by omega
 have H6:=aad h6;clear ht hd hn h6 q1 q2 q3;go_enter Tryz.func11,Tryz.ntmps11
 go_wp2_with fail
 have hx:Ext w (w.alloc (.cells #[.bool false,.slice none 0 0,.slice none 0 0] 34)):=(Ext.refl w).alloc _;have hr:=ar.new w 34 [.bool false,.slice none 0 0,.slice none 0 0];have HX:=aad hx;have HR:=aad hr;clear hx hr;refine(HP1.out _ (mW HT.out HX.out)).mono ?_;rintro e w1 ⟨rfl,bU⟩;have HX1:=aad bU;clear bU;go_wp2_with fail
 refine(HP2.out _ (mW (mW HT.out HX.out) HX1.out)).mono ?_;rintro e w2 ⟨rfl,fP⟩;have mo:=aad fP;clear fP;go_wp2_with fail
 rw[QX H6.out];go_wp2_with fail
 refine(HO.out _ (mW (mW (mW HT.out HX.out) HX1.out) mo.out)).mono ?_;rintro e w3 ⟨v3,rfl,hx3,WD⟩;obtain⟨A,c,B,d,rfl,k1,k2⟩:=WD.rqv;have bx:=((HR.out.ext HX1.out).ext mo.out).ext hx3;have r0:w3.cell? ⟨w.heap.size,0,none⟩=some (.bool false):=bx.cell 0;have r1:w3.cell? ⟨w.heap.size,1,none⟩=some (.slice none 0 0):=bx.cell 1;have r2:w3.cell? ⟨w.heap.size,2,none⟩=some (.slice none 0 0):=bx.cell 2;have f0:w3.frozen? ⟨w.heap.size,0,none⟩=false:=bx.frozen 0;have f1:w3.frozen? ⟨w.heap.size,1,none⟩=false:=bx.frozen 1;have f2:w3.frozen? ⟨w.heap.size,2,none⟩=false:=bx.frozen 2;have he:Ext w w3:=((HX.out.trans HX1.out).trans mo.out).trans hx3;have HE:=aad he;have Pl:=aad k1;have Zt:=aad k2;clear he k1 k2 hx3 WD;go_wp2
 have hb:=aad (bS.set (bS.set (bS.set (bS.refl w.heap.size w3) 0 (.bool (decide ((hR n).num<0)))) 1 (.slice A (nl (hR n).num.natAbs) c)) 2 (.slice B (nl (hR n).den) d));have kp:=aad (ZX bx (λv hv=>by simp at hv;rcases hv with rfl | rfl<;>rfl) hb.out);refine bodyPost_ret (results_cell_row (p:=2) rfl _ _ w.heap.size 34 #[.bool (decide ((hR n).num<0)),.slice A (nl (hR n).num.natAbs) c,.slice B (nl (hR n).den) d] (0,0) _ rfl (((bx.set 0 _).set 1 _).set 2 _) Tryz.underlying34 rfl (by kernel_rfl)) rfl ⟨_,rfl,hb.out.ext HE.out (bF _),.abb ⟨A,c,B,d,rfl,ie Pl.out kp.out,ie Zt.out kp.out⟩⟩
def ZY:az:=⟨11,false,on1 (.int .i64) (λn=>some (ax n)) λn=>.k .rq (hR n)⟩
theorem CH:aqJ (cfg []) ZY:=nB (enters_of Tryz.func11 (by kernel_rfl) rfl) (λ_=>rfl) λF n u w hg ht hu=>by obtain rfl:=hu.int;exact(KF n hg w ht).mono λe w' ⟨v,h1,h2,h3⟩=>⟨v,h1,h2,.abb h3.rqv⟩
def aA {α:Type} (n:Nat) (f:Nat->α):List α:=(List.range n).map f
section
variable {α β:Type}
@[simp] theorem mX (n:Nat) (f:Nat->α):(aA n f).length=n:=by simp[aA]
theorem fW {n i:Nat} {f:Nat->α} (h:i<n) (d:α):(aA n f).getD i d=f i:=by rw[au,aA,yp,Ha h];rfl
theorem ss {n i:Nat} {f:Nat->α} (h:n<=i) (d:α):(aA n f).getD i d=d:=by rw[au,iY (by simpa using h)];rfl
theorem aUu (f:Nat->α):aA 0 f=[]:=rfl
theorem tI (n:Nat) (f:Nat->α):aA (n+1) f=aA n f++[f n]:=by simp[aA,LH]
theorem bE {n:Nat} {f g:Nat->α} (h:∀i,i<n->f i=g i):aA n f=aA n g:=LI λi hi=>h i (yW.1 hi)
theorem fp {xs ys:List α} (d:α) (hl:xs.length=ys.length) (h:∀i,i<xs.length->xs.getD i d=ys.getD i d):xs=ys:=by
 refine La λi=>?_;rcases cM i xs.length with hi | hi
 ·have:=h i hi;rw[au,au,eB hi,eB (by omega)] at this;rw[eB hi,eB (by omega)];exact GI some this
 ·rw[iY hi,iY (by omega)]
theorem ad3 (xs:List α) (d:α):aA xs.length (λi=>xs.getD i d)=xs:=fp d (by simp) λi hi=>fW (by simpa using hi) d
theorem vt {xs:List α} {n:Nat} {f:Nat->α} (d:α) (hl:xs.length=n) (h:∀i,i<n->xs.getD i d=f i):xs=aA n f:=fp d (by simpa using hl) λi hi=>by rw[fW (by omega) d];exact h i (by omega)
theorem b8 (xs:List α) (i j:Nat) (x d:α) (h:i<xs.length):(xs.set i x).getD j d=if j=i then x else xs.getD j d:=by
 rw[au,List.getElem?_set];by_cases e:i=j
 ·subst e;simp[h]
 ·rw[aI e,aI (λe'=>e e'.symm),au]
theorem mY {n i:Nat} {f:Nat->α} {x:α} (h:i<n):(aA n f).set i x=aA n (λj=>if j=i then x else f j):=by
 cases n with
 | zero=>omega
 | succ n=>
  refine fp x (by simp) λj hj=>?_;have hj:j<n+1:=by simpa using hj
  rw[b8 _ _ _ _ _ (by simpa using h),fW hj,fW hj]
theorem sv (n:Nat) (f:Nat->α) (g:α->β):(aA n f).map g=aA n (λi=>g (f i)):=by simp[aA,Function.comp_def]
theorem ahw {n k:Nat} {f:Nat->α} (h:k<=n):(aA n f).take k=aA k f:=by
 cases k with
 | zero=>rfl
 | succ k=>
  refine fp (f 0) (by simp;omega) λi hi=>?_;have hi:i<k+1:=by simp at hi;omega
  rw[fW hi,au,List.getElem?_take,aV hi,<-au,fW (by omega)]
theorem iO (n:Nat) (x:α):List.replicate n x=aA n (λ_=>x):=
 fp x (by simp) λi hi=>by
  have hi:i<n:=by simpa using hi
  rw[fW hi,au,CV,aV hi];rfl
theorem uW {xs:List α} {i:Nat} (h:i<xs.length) (d:α):xs.take (i+1)=xs.take i++[xs.getD i d]:=by rw[List.take_add_one,eB h,au,eB h];rfl
theorem ahx {xs:List α} {x:α} (h:x∈xs) (d:α):∃i,i<xs.length/\xs.getD i d=x:=by obtain⟨i,hi⟩:=C6.1 h;exact⟨i,(uX.1 hi).1,by rw[au,hi];rfl⟩
theorem Ao {xs:List α} {i:Nat} (h:i<xs.length) (d:α):xs.getD i d∈xs:=by rw[au,eB h];exact Hw h
theorem mZ {xs:List α} {i:Nat} (h:xs.length<=i) (d:α):xs.getD i d=d:=by rw[au,iY h];rfl
theorem xT {xs ys:List α} {i:Nat} (h:i<xs.length) (d:α):(xs++ys).getD i d=xs.getD i d:=by rw[au,ja h,au]
theorem xU {xs ys:List α} {i:Nat} (h:xs.length<=i) (d:α):(xs++ys).getD i d=ys.getD (i-xs.length) d:=by rw[au,pw h,au]
theorem kY (xs:List α) (k i:Nat) (d:α):(xs.drop k).getD i d=xs.getD (k+i) d:=by rw[au,Gh,au]
theorem getD_take {xs:List α} {k i:Nat} (h:i<k) (d:α):(xs.take k).getD i d=xs.getD i d:=by rw[au,List.getElem?_take,aV h,au]
theorem getD_map {xs:List α} {g:α->β} {i:Nat} (h:i<xs.length) (d:α) (e:β):(xs.map g).getD i e=g (xs.getD i d):=by rw[au,yp,au,eB h];rfl
end
def aG (n m:Nat) (f:Nat->Nat->Rat):List (List Rat):=aA n λi=>aA m (f i)
def el (M:List (List Rat)) (i j:Nat):Rat:=(M.getD i []).getD j 0
def apV (f:Nat->Rat):Nat->Rat
 | 0=>0
 | n+1=>apV f n+f n
theorem uv {n:Nat} {f g:Nat->Rat} (h:∀i,i<n->f i=g i):apV f n=apV g n:=by
 induction n with
 | zero=>rfl
 | succ n ih=>rw[apV,apV,ih λi hi=>h i (by omega),h n (by omega)]
theorem Ny {n m i j:Nat} {f:Nat->Nat->Rat} (hi:i<n) (hj:j<m):el (aG n m f) i j=f i j:=by unfold el aG;rw[fW hi,fW hj]
theorem na {n m i:Nat} {f:Nat->Nat->Rat} (hi:i<n):(aG n m f).getD i []=aA m (f i):=fW hi _
@[simp] theorem mkM_len (n m:Nat) (f:Nat->Nat->Rat):(aG n m f).length=n:=mX ..
theorem jn {n m:Nat} {f g:Nat->Nat->Rat} (h:∀i j,i<n->j<m->f i j=g i j):aG n m f=aG n m g:=bE λi hi=>bE λj hj=>h i j hi hj
def SL (k:Nat) (xs:List Rat):Prop:=∀i,Sq k (xs.getD i 0)
def SM (k:Nat) (M:List (List Rat)):Prop:=∀i,SL k (M.getD i [])
theorem SL.le {j k:Nat} {xs:List Rat} (h:SL j xs) (hk:j<=k):SL k xs:=λi=>(h i).le hk
theorem SM.le {j k:Nat} {M:List (List Rat)} (h:SM j M) (hk:j<=k):SM k M:=λi=>(h i).le hk
theorem SL.nil {k:Nat} (h:1<=k):SL k []:=λi=>by rw[mZ (by simp)];exact Sq.zero k h
theorem SL.mk {k n:Nat} {f:Nat->Rat} (h:∀i,i<n->Sq k (f i)) (hk:1<=k):SL k (aA n f):=λi=>by
 rcases cM i n with hi | hi
 ·rw[fW hi];exact h i hi
 ·rw[ss hi];exact Sq.zero k hk
theorem SM.mk {k n m:Nat} {f:Nat->Nat->Rat} (h:∀i j,i<n->j<m->Sq k (f i j)) (hk:1<=k):SM k (aG n m f):=λi=>by
 rcases cM i n with hi | hi
 ·rw[na hi];exact SL.mk (λj hj=>h i j hi hj) hk
 ·unfold aG;rw[ss hi];exact SL.nil hk
theorem SM.el {k:Nat} {M:List (List Rat)} (h:SM k M) (i j:Nat):Sq k (el M i j):=h i j
theorem Sq.apV {k n:Nat} {f:Nat->Rat} (h:∀i,i<n->Sq k (f i)):Sq ((k+1)*n+1) (apV f n):=by
 induction n with
 | zero=>exact Sq.zero _ (by omega)
 | succ n ih=>have:=(ih λi hi=>h i (by omega)).add (h n (by omega));exact this.le (by rw[Nat.mul_succ];omega)
def cE (l:List Int) (i:Nat):Rat:=if i<l.length then hR (l.getD i 0) else 0
theorem WT (l:List Int) (i:Nat):Sq 64 (cE l i):=by
 unfold cE;split
 ·exact KE _
 ·exact Sq.zero 64 (by omega)
theorem QY (l:List Int) (k j:Nat):cE (aM9 l (some (if ((k:Nat):Int)<((l.length:Nat):Int) then ((k:Nat):Int) else ((l.length:Nat):Int))) none) j=cE l (k+j):=by
 by_cases h:k<l.length
 ·rw[aV (by omega)];show cE (l.drop k) j=_;unfold cE;rw[GH,kY];by_cases h':k+j<l.length
  ·rw[aV (by omega),aV h']
  ·rw[aI (by omega),aI h']
 ·rw[aI (by omega)];show cE (l.drop l.length) j=_;unfold cE;rw[Df,aI (by simp),aI (by omega)]
theorem QZ {l:List Int} (h:∀i,ax (l.getD i 0)) (k:Int) (i:Nat):ax ((aM9 l (some k) none).getD i 0):=by show ax ((l.drop k.toNat).getD i 0);rw[kY];exact h _
theorem eD {α:Type} {n:Nat} {f:Nat->α} {v:α} (h:v=f n):(aA n f).append [v]=aA (n+1) f:=by rw[h];exact(tI n f).symm
theorem qW {α:Type} {xs:List α} {i:Nat} {d:α} (h:i<xs.length):(xs.take i).append [xs.getD i d]=xs.take (i+1):=(uW h d).symm
noncomputable def LL1:List az:=ZY::aa7::xQ::[]
theorem Nz:bd LL1:=⟨CH,WL,mV,trivial⟩
def a5p:CF
 | [.k (.list (.int .i64)) l,.k (.int .i64) ((n:Nat):Int)]=>some (some ((∀i,ax (l.getD i 0))/\n<=1000000000000),.k (.list .rq) (aA n (cE l)),[])
 | _=>none
def aiq:az:=⟨68,false,a5p⟩
def air (l:List Int) (n:Nat):bk:=⟨nU,λkey_=>match key_ with
 | 3=>some (⟨Nat,λi=>[(0,.k (.list (.int .i64)) l),(1,.k (.int .i64) ((n:Nat):Int)),(5,.own 5 0 3),(6,.k (.int .i64) ((i:Nat):Int))],
 λi=>[(5,.arr 34 .rq (aA i (cE l)))],λ_ i=>i<=n,λi=>n-i⟩) | _=>none,nR,nU⟩
def agF (l:List Int) (n:Nat):Prop:=∃(x0:Nat),((l=l/\(n:Int)=↑n/\(0:Int)=(x0:Int))/\aA x0 (cE l)=[])/\x0<=n/\∀(x:Nat),x<=n->bif decide ((x:Int)<↑n)
 then l.length<=(9223372036854775807:Nat)->bif decide ((x:Int)<↑l.length) then (0<=(x:Int)/\(x:Int)<↑l.length)/\ax (l.getD
 (x:Int).toNat (0:Int))/\(aA x (cE l)).length+[hR (l.getD (x:Int).toNat 0)].length<=aB/\ax ((x:Int)+1)/\∃(x':Nat),((l=l /\
 (n:Int)=↑n/\(x:Int)+1=↑x')/\(aA x (cE l)).append [hR (l.getD (x:Int).toNat 0)]=aA x' (cE l))/\x'<=n/\n-x' <
 n-x else ax (0:Int)/\(aA x (cE l)).length+[(↑(0:Int):Rat)].length<=aB/\ax ((x:Int)+1)/\∃(x':Nat),((l=l/\(n:Int)=↑n
 /\ (x:Int)+1=↑x')/\(aA x (cE l)).append [(↑(0:Int):Rat)]=aA x' (cE l))/\x'<=n/\n-x'<n-x else aA x (cE l)=aA n (cE l)
theorem ahy (l:List Int) (n:Nat):aw LL1 [] (air l n) Tryz.f68 (.k (.list .rq) (aA n (cE l))) [.k (.list (.int .i64)) l,.k (.int .i64) ((n:Nat):Int)]=agF l n:=by kernel_rfl
theorem ahz (l:List Int) (n:Nat) (hg:(∀i,ax (l.getD i 0))/\n<=1000000000000):agF l n:=by
 obtain⟨hl,hn⟩:=hg;unfold agF;refine⟨0,⟨⟨rfl,rfl,rfl⟩,rfl⟩,fi _,λi hi=>aH (λh _=>aH (λh'=>⟨⟨by omega,h'⟩,hl i,by simp[aB];omega,⟨by omega,by omega⟩,i+1,⟨⟨rfl,rfl,rfl⟩,eD ?_⟩,by omega,by omega⟩) λh'=>⟨⟨by omega,by omega⟩,by simp[aB];omega,⟨by omega,by omega⟩,i+1,⟨⟨rfl,rfl,rfl⟩,eD ?_⟩,by omega,by omega⟩) λh=>?_⟩
 ·exact(aV (by omega)).symm
 ·exact(aI (by omega)).symm
 ·rw[show i=n by omega]
theorem ahA:aqJ (cfg []) aiq:=cf Nz bp Tryz.func68 λa _ _ _ hc hg hf=>by change a5p a=_ at hc;unfold a5p at hc;split at hc<;>cases hc;cases aY (ahy _ _) (ahz _ _ hg);exact⟨rfl,by kernel_rfl,_,by assumption⟩
noncomputable def LL2:List az:=aiq::LL1
theorem NA:bd LL2:=⟨ahA,Nz⟩
def a4A:CF
 | [.k (.list (.int .i64)) l,.k (.int .i64) ((n:Nat):Int),.k (.int .i64) ((m:Nat):Int)]=>some (some ((∀i,ax (l.getD i 0))/\n<=1000000/\m<=1000000),.k (.list (.list .rq)) (aG n m λi j=>cE l (i*m+j)),[])
 | _=>none
def aiX:az:=⟨30,false,a4A⟩
def ahB (l:List Int) (n m:Nat):bk:=⟨nU,λkey_=>match key_ with
 | 3=>some (⟨Nat,λi=>[(0,.k (.list (.int .i64)) l),(1,.k (.int .i64) ((n:Nat):Int)),(2,.k (.int .i64) ((m:Nat):Int)),(7,.own 7 0 1),(8,.k (.int .i64) ((i:Nat):Int))],
 λi=>[(7,.arr 28 (.list .rq) (aG i m λi j=>cE l (i*m+j)))],λ_ i=>i<=n,λi=>n-i⟩) | _=>none,nR,nU⟩
def afx (l:List Int) (n m:Nat):Prop:=∃(x0:Nat),((l=l/\(n:Int)=↑n/\(m:Int)=↑m/\(0:Int)=(x0:Int))/\(aG x0 m λ(i j:Nat)=>cE l (i*m+j))=[])/\x0<=n/\∀
 (x:Nat),let u2:=aG x m λ(i j:Nat)=>cE l (i*m+j);
 let u1:=some (if (x:Int)*(m:Int)<↑l.length then (x:Int)*(m:Int) else (↑l.length:Int));x<=n->bif decide ((x:Int)<↑n) then
 l.length<=(9223372036854775807:Nat)->ax ((x:Int)*(m:Int))/\rz l.length u1 none none/\((∀(i:Nat),ax ((aM9 l u1 none).getD i 0))/\m <=
 (1000000000000:Nat))/\u2.length+[aA m (cE (aM9 l u1 none))].length<=aB/\ax ((x:Int)+1)/\∃(x':Nat),((l=l/\(n:Int)=↑n/\(↑m
 : Int)=(m:Int)/\(x:Int)+1=↑x')/\u2.append [aA m (cE (aM9 l u1 none))]=aG x' m λ(i j:Nat)=>cE l (i*m+j))/\x'<=n/\n -
 x'<n-x else u2=aG n m λ(i j:Nat)=>cE l (i*m+j)
theorem agG (l:List Int) (n m:Nat):aw LL2 [] (ahB l n m) Tryz.f30 (.k (.list (.list .rq)) (aG n m λi j=>cE l (i*m+j))) [.k (.list (.int .i64)) l,.k (.int .i64) ((n:Nat):Int),.k (.int .i64) ((m:Nat):Int)]=afx l n m:=by kernel_rfl
theorem agH (l:List Int) (n m:Nat) (hg:(∀i,ax (l.getD i 0))/\n<=1000000/\m<=1000000):afx l n m:=by
 obtain⟨hl,hn,hm⟩:=hg;unfold afx;refine⟨0,⟨⟨rfl,rfl,rfl,rfl⟩,rfl⟩,fi _,λi hi=>aH (λh _=>?_) λh=>?_⟩
 ·have hb:=yr (show i<=1000000 by omega) hm;have e:(i:Int)*(m:Int)=((i*m:Nat):Int):=(Ar i m).symm;rw[e];refine⟨⟨by omega,by omega⟩,⟨by split<;>omega,by split<;>omega⟩,⟨QZ hl _,by omega⟩,by simp[aB];omega,⟨by omega,by omega⟩,i+1,⟨⟨rfl,rfl,rfl,rfl⟩,eD ?_⟩,by omega,by omega⟩;exact bE λj _=>QY l _ j
 ·rw[show i=n by omega]
theorem agI:aqJ (cfg []) aiX:=cf NA bp Tryz.func30 λa _ _ _ hc hg hf=>by change a4A a=_ at hc;unfold a4A at hc;split at hc<;>cases hc;cases aY (agG _ _ _) (agH _ _ _ hg);exact⟨rfl,by kernel_rfl,_,by assumption⟩
def a3A:CF
 | [.k (.list .rq) xs]=>some (some (SL BQ xs),.k (.list .q) xs,[])
 | _=>none
def xV:az:=⟨15,false,a3A⟩
def KG (xs:List Rat):bk:=⟨nU,λkey_=>match key_ with
 | 3=>some (⟨Nat,λi=>[(0,.k (.list .rq) xs),(3,.own 3 0 5),(4,.k (.int .i64) ((i:Nat):Int))],
 λi=>[(3,.arr 55 .q (xs.take i))],λ_ i=>i<=xs.length,λi=>xs.length-i⟩) | _=>none,nR,nU⟩
def xW (xs:List Rat):Prop:=∃(x0:Nat),((xs=xs/\(0:Int)=(x0:Int))/\List.take x0 xs=[])/\x0<=xs.length/\∀(x:Nat),x<=xs.length->xs.length<=aB->bif decide ((x:Int) <
 (↑xs.length:Int)) then (0<=(x:Int)/\(x:Int)<↑xs.length)/\Sq BQ (xs.getD (x:Int).toNat 0)/\(List.take x xs).length+[xs.getD (↑x
 : Int).toNat 0].length<=aB/\ax ((x:Int)+1)/\∃(x':Nat),((xs=xs/\(x:Int)+1=↑x')/\(List.take x xs).append [xs.getD
 (x:Int).toNat (0:Rat)]=List.take x' xs)/\x'<=xs.length/\xs.length-x'<xs.length-x else List.take x xs=xs
theorem F7 (xs:List Rat):aw LL2 [] (KG xs) Tryz.f15 (.k (.list .q) xs) [.k (.list .rq) xs]=xW xs:=by kernel_rfl
theorem F8 (xs:List Rat) (hg:SL BQ xs):xW xs:=by unfold xW;refine⟨0,⟨⟨rfl,rfl⟩,rfl⟩,fi _,λi hi hL=>aH (λh=>⟨⟨by omega,h⟩,hg i,by unfold aB at hL ⊢;simp;omega,⟨by unfold aB at hL;omega,by unfold aB at hL;omega⟩,i+1,⟨⟨rfl,rfl⟩,qW (by omega)⟩,by omega,by omega⟩) λh=>?_⟩;exact nK (by omega)
theorem uw:aqJ (cfg []) xV:=cf NA bp Tryz.func15 λa _ _ _ hc hg hf=>by change a3A a=_ at hc;unfold a3A at hc;split at hc<;>cases hc;cases aY (F7 _) (F8 _ hg);exact⟨rfl,by kernel_rfl,_,by assumption⟩
noncomputable def Z2:List az:=xV::LL2
theorem CI:bd Z2:=⟨uw,NA⟩
def a2G:CF
 | [.k (.list (.list .rq)) M]=>some (some (SM BQ M),.k (.list (.list .q)) M,[])
 | _=>none
def Ap:az:=⟨16,false,a2G⟩
def F9 (M:LM):bk:=⟨nU,λkey_=>match key_ with
 | 3=>some (⟨Nat,λi=>[(0,.k (.list (.list .rq)) M),(3,.own 3 0 1),(4,.k (.int .i64) ((i:Nat):Int))],
 λi=>[(3,.arr 43 (.list .q) (M.take i))],λ_ i=>i<=M.length,λi=>M.length-i⟩) | _=>none,nR,nU⟩
def tJ (M:LM):Prop:=∃(x0:Nat),((M=M/\(0:Int)=(x0:Int))/\List.take x0 M=[])/\x0<=M.length/\∀(x:Nat),x<=M.length->M.length<=aB->bif decide ((x:Int)<(↑M.length
 : Int)) then (0<=(x:Int)/\(x:Int)<↑M.length)/\SL BQ (M.getD (x:Int).toNat [])/\(List.take x M).length+[M.getD (x:Int).toNat []].length
 <= aB/\ax ((x:Int)+1)/\∃(x':Nat),((M=M/\(x:Int)+1=↑x')/\(List.take x M).append [M.getD (x:Int).toNat []]=List.take x'
 M)/\x'<=M.length/\M.length-x'<M.length-x else List.take x M=M
theorem CJ (M:LM):aw Z2 [] (F9 M) Tryz.f16 (.k (.list (.list .q)) M) [.k (.list (.list .rq)) M]=tJ M:=by kernel_rfl
theorem CK (M:LM) (hg:SM BQ M):tJ M:=by unfold tJ;refine⟨0,⟨⟨rfl,rfl⟩,rfl⟩,fi _,λi hi hL=>aH (λh=>⟨⟨by omega,h⟩,hg i,by unfold aB at hL ⊢;simp;omega,⟨by unfold aB at hL;omega,by unfold aB at hL;omega⟩,i+1,⟨⟨rfl,rfl⟩,qW (by omega)⟩,by omega,by omega⟩) λh=>?_⟩;exact nK (by omega)
theorem CL:aqJ (cfg []) Ap:=cf CI bp Tryz.func16 λa _ _ _ hc hg hf=>by change a2G a=_ at hc;unfold a2G at hc;split at hc<;>cases hc;cases aY (CJ _) (CK _ hg);exact⟨rfl,by kernel_rfl,_,by assumption⟩
def dW (xs ys:List Rat):Rat:=apV (λk=>xs.getD k 0*ys.getD k 0) xs.length
def lM (xs ys:List Rat):Prop:=∃j k,SL j xs/\SL k ys/\(j+k+1)*xs.length+j+k+1<=BQ
theorem lM.at {xs ys:List Rat} (h:lM xs ys) (i:Nat):Sq BQ (xs.getD i 0)/\Sq BQ (ys.getD i 0)/\Sq BQ (xs.getD i 0*ys.getD i 0):=by obtain⟨j,k,h1,h2,h3⟩:=h;exact⟨(h1 i).le (by omega),(h2 i).le (by omega),((h1 i).mul (h2 i)).le (by omega)⟩
theorem lM.sum {xs ys:List Rat} (h:lM xs ys) {i:Nat} (hi:i<=xs.length):Sq BQ (apV (λk=>xs.getD k 0*ys.getD k 0) i):=by obtain⟨j,k,h1,h2,h3⟩:=h;have h4:=gU (j+k+1) hi;exact(Sq.apV (k:=j+k) (n:=i) λt _=>(h1 t).mul (h2 t)).le (by omega)
theorem x4 {xs ys:List Rat} {j k:Nat} (h1:SL j xs) (h2:SL k ys):Sq ((j+k+1)*xs.length+1) (dW xs ys):=Sq.apV λt _=>(h1 t).mul (h2 t)
def cmpL:List Rat->List Rat->Int
 | [],[]=>0
 | [],_::_=> -1
 | _::_,[]=>1
 | x::xs,y::ys=>if fS x y=0 then cmpL xs ys else fS x y
theorem gz {x y:Rat}:fS x y=0↔x=y:=by
 unfold fS;constructor
 ·intro h;split at h
  ·omega
  ·split at h
   ·assumption
   ·omega
 ·intro h;subst h;rw[aI Rat.lt_irrefl,aV rfl]
theorem x5:∀{xs ys:List Rat},cmpL xs ys=0↔xs=ys
 | [],[]=>by simp[cmpL]
 | [],_::_=>by simp[cmpL]
 | _::_,[]=>by simp[cmpL]
 | x::xs,y::ys=>by
  unfold cmpL;split
  ·rename_i h;rw[x5,gz.1 h];simp
  ·rename_i h;constructor
   ·exact λe=>absurd e h
   ·intro e;injection e with e1 e2
    exact absurd (gz.2 e1) h
theorem x6 {xs ys:List Rat} {i:Nat} (h1:i<xs.length) (h2:i<ys.length):cmpL (xs.drop i) (ys.drop i)=if fS (xs.getD i 0) (ys.getD i 0)=0 then cmpL (xs.drop (i+1)) (ys.drop (i+1)) else fS (xs.getD i 0) (ys.getD i 0):=by rw[tT h1,tT h2,cmpL,au,au,eB h1,eB h2];rfl
theorem Aq {xs ys:List Rat} (h1:xs=[]):cmpL xs ys=if ys.length=0 then 0 else -1:=by
 subst h1
 cases ys<;>simp[cmpL]
theorem Q0 {xs ys:List Rat} (h1:xs≠[]) (h2:ys=[]):cmpL xs ys=1:=by
 subst h2
 cases xs with
 | nil=>exact absurd rfl h1
 | cons=>rfl
noncomputable def Q1:List az:=Ke::xK::xM::xQ::Kv::Kx::Kz::[]
theorem a2U:bd Q1:=⟨z7,pI,pJ,mV,Ai,Aj,Ak,trivial⟩
def a5q:CF
 | [.k (.list .q) xs,.k (.list .q) ys]=>some (some (xs.length=ys.length->lM xs ys),T2 (.k .q (if xs.length=ys.length then dW xs ys else 0)) (.k .bool (decide (xs.length=ys.length))),[])
 | _=>none
def WU:az:=⟨85,false,a5q⟩
def WV (xs ys:List Rat):bk:=⟨λkey_=>match key_ with | 7=>7 | _=>0,λkey_=>match key_ with
 | 5=>some (⟨Nat,λi=>[(1,.k (.list .q) ys),(4,.pt 4 0 5 0 0),(6,.pt 6 0 5 0 0),(15,.k (.list .q) xs),(16,.k (.int .i64) ((xs.length:Nat):Int)),(17,.k (.int .i64) ((i:Nat):Int))],
 λi=>[(4,.box 55 (.k .q (0:Rat))),(6,.box 55 (.k .q (apV (λk=>xs.getD k 0*ys.getD k 0) i)))],λ_ i=>i<=xs.length/\xs.length=ys.length,λi=>xs.length-i⟩) | _=>none,nR,nU⟩
def KH (xs ys:List Rat):Prop:=xs.length<=aB->ys.length<=aB->bif !decide ((↑xs.length:Int)=↑ys.length) then ((0:Nat)=(0:Nat)\/(0:Nat)≠(1:Nat)/\(Int.natAbs (0 :
 Int)).Coprime (0:Nat))/\(j6 (0:Int) (0:Nat)=if xs.length=ys.length then dW xs ys else (0:Rat))/\false=decide (xs.length=ys.length) else xs.length <=
 aB->∃(x0:Nat),((ys=ys/\xs=xs/\(↑xs.length:Int)=↑xs.length/\(0:Int)=(x0:Int))/\(0:Rat)=(0:Rat)/\(0:Rat)=apV (λ(k:Nat)=>
 xs.getD k 0*ys.getD k 0) x0)/\(x0<=xs.length/\xs.length=ys.length)/\∀(x:Nat),x<=xs.length/\xs.length=ys.length->bif decide ((x:Int) <
 (↑xs.length:Int)) then (0<=(x:Int)/\(x:Int)<↑xs.length)/\(0<=(x:Int)/\(x:Int)<↑ys.length)/\(Sq BQ (xs.getD (↑x :
 Int).toNat 0)/\Sq BQ (ys.getD (x:Int).toNat 0))/\(Sq BQ (apV (λ(k:Nat)=>xs.getD k 0*ys.getD k 0) x)/\Sq BQ (xs.getD (↑x :
 Int).toNat 0*ys.getD (x:Int).toNat 0))/\((-9223372036854775808:Int)<=(x:Int)+1/\(x:Int)+1<=(9223372036854775807 :
 Int))/\∃(x':Nat),((ys=ys/\xs=xs/\(↑xs.length:Int)=↑xs.length/\(x:Int)+1=↑x')/\(0:Rat)=(0:Rat)/\apV (λ(k:Nat)
 =>xs.getD k 0*ys.getD k 0) x+xs.getD (x:Int).toNat 0*ys.getD (x:Int).toNat 0=apV (λ(k:Nat)=>xs.getD k 0 *
 ys.getD k 0) x')/\(x'<=xs.length/\xs.length=ys.length)/\xs.length-x'<xs.length-x else (apV (λ(k:Nat)=>xs.getD k 0*ys.getD k (0 :
 Rat)) x=if xs.length=ys.length then dW xs ys else (0:Rat))/\true=decide (xs.length=ys.length)
theorem Q2 (xs ys:List Rat):aw Q1 [] (WV xs ys) Tryz.f85 (T2 (.k .q (if xs.length=ys.length then dW xs ys else 0)) (.k .bool (decide (xs.length=ys.length)))) [.k (.list .q) xs,.k (.list .q) ys]=KH xs ys:=by kernel_rfl
theorem Q3 (xs ys:List Rat) (hg:xs.length=ys.length->lM xs ys):KH xs ys:=by
 unfold KH;intro hL _;unfold aB at hL;refine dP (λh=>?_) λh _=>?_
 ·have h:¬xs.length=ys.length:=λe=>h (by rw[e]);rw[aI h,eJ h];exact⟨.inl rfl,fN 0,rfl⟩
 ·have h:xs.length=ys.length:=by omega
  have hd:=hg h;refine⟨0,⟨⟨rfl,rfl,rfl,rfl⟩,rfl,rfl⟩,⟨fi _,h⟩,λi ⟨hi,_⟩=>aH (λh'=>⟨⟨by omega,h'⟩,⟨by omega,by omega⟩,⟨(hd.at i).1,(hd.at i).2.1⟩,⟨hd.sum hi,(hd.at i).2.2⟩,⟨by omega,by omega⟩,i+1,⟨⟨rfl,rfl,rfl,rfl⟩,rfl,rfl⟩,⟨by omega,h⟩,by omega⟩) λh'=>?_⟩;rw[aV h,kx h,show i=xs.length by omega];exact⟨rfl,rfl⟩
theorem Q4:aqJ (cfg []) WU:=cf a2U bp Tryz.func85 λa _ _ _ hc hg hf=>by change a5q a=_ at hc;unfold a5q at hc;split at hc<;>cases hc;cases aY (Q2 _ _) (Q3 _ _ hg);exact⟨rfl,by kernel_rfl,_,by assumption⟩
def a5r:CF
 | [.k (.list .rq) xs,.k (.list .rq) ys]=>some (some (xs.length<=ys.length/\lM xs ys),.k .rq (dW xs ys),[])
 | _=>none
def WW:az:=⟨22,false,a5r⟩
def WX (xs ys:List Rat):bk:=⟨λkey_=>match key_ with | 5=>10 | _=>0,λkey_=>match key_ with
 | 3=>some (⟨Nat,λi=>[(0,.k (.list .rq) xs),(1,.k (.list .rq) ys),(4,.pt 4 0 3 0 0),(5,.pt 5 0 3 0 0),(6,.k (.int .i64) ((i:Nat):Int))],
 λi=>[(4,.box 34 (.agg (.cons (.k .ri (0:Int)) (.cons (.k .rn (0:Nat)) .nil)))),(5,.box 34 (.k .rq (apV (λk=>xs.getD k 0*ys.getD k 0) i)))],λ_ i=>i<=xs.length,λi=>xs.length-i⟩) | _=>none,nR,nU⟩
def KI (xs ys:List Rat):Prop:=((-9223372036854775808:Int)<=(0:Int)/\(0:Int)<=(9223372036854775807:Int))/\∃(x0:Nat),((xs=xs/\ys=ys/\(0:Int)=(x0:Int))/\((0:Int)=(0 :
 Int)/\(0:Nat)=0)/\(↑(0:Int):Rat)=apV (λ(k:Nat)=>xs.getD k 0*ys.getD k 0) x0)/\x0<=xs.length/\∀(x:Nat),x<=xs.length ->
 xs.length<=aB->bif decide ((x:Int)<↑xs.length) then (0<=(x:Int)/\(x:Int)<↑xs.length)/\(0<=(x:Int)/\(x:Int) <
 (↑ys.length:Int))/\(Sq BQ (xs.getD (x:Int).toNat 0)/\Sq BQ (ys.getD (x:Int).toNat 0))/\(Sq BQ (apV (λ(k:Nat)=>xs.getD k 0 *
 ys.getD k 0) x)/\Sq BQ (xs.getD (x:Int).toNat 0*ys.getD (x:Int).toNat 0))/\((-9223372036854775808:Int)<=(x:Int)+1/\(↑x
 : Int)+(1:Int)<=(9223372036854775807:Int))/\∃(x':Nat),((xs=xs/\ys=ys/\(x:Int)+1=↑x')/\((0:Int)=(0:Int)/\(0:Nat)=(0 :
 Nat))/\apV (λ(k:Nat)=>xs.getD k 0*ys.getD k 0) x+xs.getD (x:Int).toNat 0*ys.getD (x:Int).toNat 0=apV (λ(k :
 Nat)=>xs.getD k 0*ys.getD k 0) x')/\x'<=xs.length/\xs.length-x'<xs.length-x else apV (λ(k:Nat)=>xs.getD k 0*ys.getD k (0 :
 Rat)) x=dW xs ys
theorem Q5 (xs ys:List Rat):aw Q1 [] (WX xs ys) Tryz.f22 (.k .rq (dW xs ys)) [.k (.list .rq) xs,.k (.list .rq) ys]=KI xs ys:=by kernel_rfl
theorem Q6 (xs ys:List Rat) (hg:xs.length<=ys.length/\lM xs ys):KI xs ys:=by obtain⟨hl,hd⟩:=hg;unfold KI;refine⟨by omega,0,⟨⟨rfl,rfl,rfl⟩,⟨rfl,rfl⟩,rfl⟩,fi _,λi hi hL=>?_⟩;unfold aB at hL;refine aH (λh'=>⟨⟨by omega,h'⟩,⟨by omega,by omega⟩,⟨(hd.at i).1,(hd.at i).2.1⟩,⟨hd.sum hi,(hd.at i).2.2⟩,⟨by omega,by omega⟩,i+1,⟨⟨rfl,rfl,rfl⟩,⟨rfl,rfl⟩,rfl⟩,by omega,by omega⟩) λh'=>?_;rw[show i=xs.length by omega];rfl
theorem Q7:aqJ (cfg []) WW:=cf a2U bp Tryz.func22 λa _ _ _ hc hg hf=>by change a5r a=_ at hc;unfold a5r at hc;split at hc<;>cases hc;cases aY (Q5 _ _) (Q6 _ _ hg);exact⟨rfl,by kernel_rfl,_,by assumption⟩
def a5s:CF
 | [.k (.list .q) xs,.k (.list .q) ys,.fn 54 .nil]=>some (some (SL BQ xs/\SL BQ ys),.k (.int .i64) (cmpL xs ys),[])
 | _=>none
def WY:az:=⟨80,false,a5s⟩
def WZ (xs ys:List Rat):bk:=⟨nU,λkey_=>match key_ with
 | 2=>some (⟨Nat,λi=>[(0,.k (.list .q) xs),(1,.k (.list .q) ys),(2,.fn 54 .nil),(11,.k (.list .q) xs),(12,.k (.int .i64) ((xs.length:Nat):Int)),(13,.k (.int .i64) ((i:Nat):Int))],
 λi=>[],λ_ i=>i<=xs.length/\i<=ys.length/\cmpL xs ys=cmpL (xs.drop i) (ys.drop i),λi=>xs.length-i⟩) | _=>none,nR,nU⟩
def KJ (xs ys:List Rat):Prop:=xs.length<=aB->∃(x0:Nat),(xs=xs/\ys=ys/\xs=xs/\(↑xs.length:Int)=↑xs.length/\(0:Int)=(x0:Int))/\(x0<=xs.length/\x0<=ys.length /\
 cmpL xs ys=cmpL (List.drop x0 xs) (List.drop x0 ys))/\∀(x:Nat),x<=xs.length/\x<=ys.length/\cmpL xs ys=cmpL (List.drop x xs) (List.drop x ys)->bif decide
 ((x:Int)<↑xs.length) then (0<=(x:Int)/\(x:Int)<↑xs.length)/\(ys.length<=aB->bif decide ((↑ys.length:Int)<=(x:Int)) then
 (1:Int)=cmpL xs ys else (0<=(x:Int)/\(x:Int)<↑ys.length)/\(Sq BQ (xs.getD (x:Int).toNat 0)/\Sq BQ (ys.getD (x:Int).toNat (0
 : Rat)))/\bif !decide (fS (xs.getD (x:Int).toNat 0) (ys.getD (x:Int).toNat 0)=0) then fS (xs.getD (x:Int).toNat 0)
 (ys.getD (x:Int).toNat 0)=cmpL xs ys else ((-9223372036854775808:Int)<=(x:Int)+1/\(x:Int)+1<=(9223372036854775807:Int))/\∃
 (x':Nat),(xs=xs/\ys=ys/\xs=xs/\(↑xs.length:Int)=↑xs.length/\(x:Int)+1=↑x')/\(x'<=xs.length/\x'<=ys.length/\cmpL xs ys
 = cmpL (List.drop x' xs) (List.drop x' ys))/\xs.length-x'<xs.length-x) else xs.length<=aB->ys.length<=aB->bif decide ((↑xs.length:Int)<(↑ys.length :
 Int)) then (-1:Int)=cmpL xs ys else (0:Int)=cmpL xs ys
theorem Q8 (xs ys:List Rat):aw Q1 [] (WZ xs ys) Tryz.f80 (.k (.int .i64) (cmpL xs ys)) [.k (.list .q) xs,.k (.list .q) ys,.fn 54 .nil]=KJ xs ys:=by kernel_rfl
theorem Q9 (xs ys:List Rat) (hg:SL BQ xs/\SL BQ ys):KJ xs ys:=by
 obtain⟨h1,h2⟩:=hg;unfold KJ;intro hL;unfold aB at hL;refine⟨0,⟨rfl,rfl,rfl,rfl,rfl⟩,⟨fi _,fi _,rfl⟩,λi ⟨hi,hj,he⟩=>aH (λh=>⟨⟨by omega,h⟩,λ_=>aH (λh3=>?_) λh3=>⟨⟨by omega,by omega⟩,⟨h1 i,h2 i⟩,dP (λh4=>?_) λh4=>⟨⟨by omega,by omega⟩,i+1,⟨rfl,rfl,rfl,rfl,rfl⟩,⟨by omega,by omega,?_⟩,by omega⟩⟩⟩) λh _ _=>aH (λh3=>?_) λh3=>?_⟩
 ·rw[he,At (show ys.length<=i by omega)];exact(Q0 (λe=>by have:=GI List.length e;simp at this;omega) rfl).symm
 ·rw[he,x6 (by omega) (by omega)];exact(aI h4).symm
 ·rw[he,x6 (by omega) (by omega)];exact aV h4
 ·rw[he,Aq (At (by omega)),aI (by simp;omega)]
 ·rw[he,Aq (At (by omega)),aV (by simp;omega)]
theorem Ra:aqJ (cfg []) WY:=cf a2U bp Tryz.func80 λa _ _ _ hc hg hf=>by change a5s a=_ at hc;unfold a5s at hc;split at hc<;>cases hc;cases aY (Q8 _ _) (Q9 _ _ hg);exact⟨rfl,by kernel_rfl,_,by assumption⟩
def CN:CF
 | [.k (.list .rq) xs,.k (.list .rq) ys]=>some (some (SL BQ xs/\SL BQ ys),.k .bool (decide (xs=ys)),[])
 | _=>none
def NB:az:=⟨49,false,CN⟩
def Rb (xs ys:List Rat):bk:=⟨λkey_=>match key_ with | 6=>8 | _=>0,λkey_=>match key_ with
 | 4=>some (⟨Nat,λi=>[(0,.k (.list .rq) xs),(1,.k (.list .rq) ys),(5,.k (.int .i64) ((i:Nat):Int))],
 λi=>[],λ_ i=>i<=xs.length/\xs.length=ys.length/\∀j,j<i->xs.getD j 0=ys.getD j 0,λi=>xs.length-i⟩) | _=>none,nR,nU⟩
def CO (xs ys:List Rat):Prop:=xs.length<=aB->ys.length<=aB->bif !decide ((↑xs.length:Int)=↑ys.length) then false=decide (xs=ys) else ∃(x0:Nat),(xs=xs/\ys=ys/\(0:Int)
 = (x0:Int))/\(x0<=xs.length/\xs.length=ys.length/\∀(j:Nat),j<x0->xs.getD j 0=ys.getD j 0)/\∀(x:Nat),(x<=xs.length/\xs.length =
 ys.length/\∀(j:Nat),j<x->xs.getD j 0=ys.getD j 0)->xs.length<=aB->bif decide ((x:Int)<↑xs.length) then (0<=(x:Int)
 /\ (x:Int)<↑xs.length)/\(0<=(x:Int)/\(x:Int)<↑ys.length)/\(Sq BQ (xs.getD (x:Int).toNat 0)/\Sq BQ (ys.getD (↑x :
 Int).toNat 0))/\bif !decide (fS (xs.getD (x:Int).toNat 0) (ys.getD (x:Int).toNat 0)=0) then false=decide (xs=ys) else
 ((-9223372036854775808:Int)<=(x:Int)+1/\(x:Int)+1<=(9223372036854775807:Int))/\∃(x':Nat),(xs=xs/\ys=ys/\(x:Int)+1
 = (x':Int))/\(x'<=xs.length/\xs.length=ys.length/\∀(j:Nat),j<x'->xs.getD j 0=ys.getD j 0)/\xs.length-x'<xs.length-x else true =
 decide (xs=ys)
theorem KK (xs ys:List Rat):aw Q1 [] (Rb xs ys) Tryz.f49 (.k .bool (decide (xs=ys))) [.k (.list .rq) xs,.k (.list .rq) ys]=CO xs ys:=by kernel_rfl
theorem KL (xs ys:List Rat) (hg:SL BQ xs/\SL BQ ys):CO xs ys:=by
 obtain⟨h1,h2⟩:=hg;unfold CO;intro hL _;unfold aB at hL;refine dP (λh=>(eJ λe=>h (by rw[e])).symm) λh=>⟨0,⟨rfl,rfl,rfl⟩,⟨fi _,by omega,λj hj=>by omega⟩,λi ⟨hi,hlen,bB⟩ _=>aH (λh'=>⟨⟨by omega,h'⟩,⟨by omega,by omega⟩,⟨h1 i,h2 i⟩,dP (λh3=>(eJ λe=>h3 (gz.2 (by rw[e]))).symm) λh3=>⟨⟨by omega,by omega⟩,i+1,⟨rfl,rfl,rfl⟩,⟨by omega,hlen,λj hj=>?_⟩,by omega⟩⟩) λh'=>(kx ?_).symm⟩
 ·rcases cM j i with h4 | h4
  ·exact bB j h4
  ·rw[show j=i by omega];exact gz.1 h3
 ·exact fp 0 hlen λj hj=>bB j (by omega)
theorem KM:aqJ (cfg []) NB:=cf a2U bp Tryz.func49 λa _ _ _ hc hg hf=>by change CN a=_ at hc;unfold CN at hc;split at hc<;>cases hc;cases aY (KK _ _) (KL _ _ hg);exact⟨rfl,by kernel_rfl,_,by assumption⟩
noncomputable def LV2:List az:=WY::Q1
theorem NC:bd LV2:=⟨Ra,a2U⟩
def CP:CF
 | [.k (.list .q) xs,.k (.list .q) ys]=>some (some (SL BQ xs/\SL BQ ys),.k .bool (decide (xs=ys)),[])
 | _=>none
def ND:az:=⟨47,false,CP⟩
def Rc (xs ys:List Rat):bk:=⟨nU,nL,nR,nU⟩
def NF (xs ys:List Rat):Prop:=((∀(i:Nat),Sq BQ (xs.getD i 0))/\∀(i:Nat),Sq BQ (ys.getD i 0))/\decide (cmpL xs ys=0)=decide (xs=ys)
theorem KN (xs ys:List Rat):aw LV2 [] (Rc xs ys) Tryz.f47 (.k .bool (decide (xs=ys))) [.k (.list .q) xs,.k (.list .q) ys]=NF xs ys:=by kernel_rfl
theorem KO (xs ys:List Rat) (hg:SL BQ xs/\SL BQ ys):NF xs ys:=by exact⟨hg,yw.2 x5⟩
theorem KP:aqJ (cfg []) ND:=cf NC bp Tryz.func47 λa _ _ _ hc hg hf=>by change CP a=_ at hc;unfold CP at hc;split at hc<;>cases hc;cases aY (KN _ _) (KO _ _ hg);exact⟨rfl,by kernel_rfl,_,by assumption⟩
def bh (n x:Nat):List Nat:=aA n λt=>if t<x then t+1 else 0
def bD (x m:Nat) (F:Nat->Nat->Rat):LM:=[]::aG x m F
theorem pL (n x:Nat):(bh n x).length=n:=mX ..
theorem K3 (x m:Nat) (F:Nat->Nat->Rat):(bD x m F).length=x+1:=by simp[bD]
theorem x8 (n:Nat):List.replicate n 0=bh n 0:=iO n 0
theorem As {n i:Nat} (h:i<n):(bh n i).set i (i+1)=bh n (i+1):=by
 unfold bh;rw[mY h];refine bE λj _=>?_
 rcases vv j i with h | h | h
 ·rw[aI (by omega),aV h,aV (by omega)]
 ·rw[aV h,aV (by omega),h]
 ·rw[aI (by omega),aI (by omega),aI (by omega)]
theorem tK {n m:Nat} {F:Nat->Nat->Rat}:List.map (λp=>(bD n m F).getD p []) (bh n n)=aG n m F:=by
 unfold bh bD aG;rw[sv];refine bE λi hi=>?_
 rw[aV hi,C5,fW hi]
def mulN (f g:Nat->Nat->Rat) (i c:Nat):Nat->Rat
 | 0=>0
 | t+1=>mulN f g i c t+f i t*g t c
def dw (f g:Nat->Nat->Rat) (l:Nat):Nat->Nat->Rat:=λi c=>mulN f g i c l
def iP:Nat->Nat->Rat:=λi c=>if i=c then 1 else 0
theorem tL (f g:Nat->Nat->Rat) (i c:Nat):∀t,apV (λk=>f i k*g k c) t=mulN f g i c t
 | 0=>rfl
 | t+1=>by rw[apV,mulN,tL f g i c t]
def a64 (n:Nat) (f g:Nat->Nat->Rat):Prop:=∀i c,i<n->c<n->f i c=g i c
theorem nP {f g:Nat->Nat->Rat} {i c:Nat}:∀t,(∀s,s<t->f i s=0)->mulN f g i c t=0
 | 0,_=>rfl
 | t+1,h=>by rw[mulN,nP t (λs hs=>h s (by omega)),h t (by omega)];grind
theorem Au (f:Nat->Nat->Rat) {n:Nat}:a64 n (dw iP f n) f:=λi c hi _=>by
 unfold dw;have h1:∀t,t<=i->mulN iP f i c t=0:=λt ht=>nP t λs hs=>by unfold iP;rw[aI (by omega)]
 have h2:∀t,i<t->mulN iP f i c t=f i c:=λt=>by
  induction t with
  | zero=>intro h;omega
  | succ t ih=>
   intro h;rw[mulN];rcases cM i t with h' | h'
   ·rw[ih h'];unfold iP;rw[aI (by omega)];grind
   ·have e:i=t:=by omega
    subst e;rw[h1 i (bF _)];unfold iP;rw[aV rfl];grind
 exact h2 n hi
def as3 (M:LM):Bool:=match M with
 | []=>false
 | r::_=> !decide (r.length=0)&&M.all λx=>decide (x.length=r.length)
theorem nM {M:LM} (hp:0<M.length) (ay:(M.getD 0 []).length≠0) (h:∀j,j<M.length->(M.getD j []).length=(M.getD 0 []).length):as3 M=true:=by
 cases M with
 | nil=>simp at hp
 | cons r rs=>
  have ay:r.length≠0:=by simpa using ay
  have:∀x∈(r::rs),x.length=r.length:=λx hx=>by obtain⟨i,hi⟩:=C6.1 hx;have aU:=(uX.1 hi).1;have:=h i aU;rw[au,hi] at this;simpa using this
  unfold as3;simp only[dz,yv,AB,yd,decide_eq_false_iff_not];exact⟨ay,this⟩
theorem ju {M:LM} (h:(M.getD 0 []).length=0\/∃i,i<M.length/\(M.getD i []).length≠(M.getD 0 []).length):as3 M=false:=by
 cases M with
 | nil=>rfl
 | cons r rs=>
  cases hb:as3 (r::rs) with
  | false=>rfl
  | true=>
   exfalso;unfold as3 at hb;simp only[dz,yv,AB,yd,decide_eq_false_iff_not] at hb;obtain⟨h1,h2⟩:=hb;rcases h with h | ⟨i,hi,ay⟩
   ·exact h1 (by simpa using h)
   ·refine ay ?_;rw[au,eB hi];exact h2 _ (Hw hi)
def aps (M:LM):Nat:=(M.getD 0 []).length
theorem ba {M:LM} (h:as3 M=true):0<M.length/\aps M≠0/\∀i,i<M.length->(M.getD i []).length=aps M:=by
 cases M with
 | nil=>cases h
 | cons r rs=>unfold as3 at h;simp only[dz,yv,AB,yd,decide_eq_false_iff_not] at h;exact⟨by simp,h.1,λi hi=>h.2 _ (Ao hi [])⟩
theorem Lh {n m:Nat} (hn:0<n) (hm:0<m) (F:Nat->Nat->Rat):as3 (aG n m F)=true:=
 nM (by simp;omega) (by rw[na hn];simp;omega) λj hj=>by rw[mkM_len] at hj;rw[na hj,na hn];simp
theorem tM {n m:Nat} (hn:0<n) (F:Nat->Nat->Rat):aps (aG n m F)=m:=by unfold aps;rw[na hn];simp
def bz (b:Bool) (M:LM):LM:=bif b then M else []
def bu (b:Bool):Int:=bif b then 0 else 5
theorem a6T {b:Bool} {X Y:Prop} (h1:b=false->X) (h2:b=true->Y):cond (!b) X Y:=by
 cases b with
 | true=>exact h2 rfl
 | false=>exact h1 rfl
theorem bX {a b:Nat}:((a:Int)=(b:Int))↔a=b:=Int.ofNat_inj
noncomputable def LA1:List az:=[]
theorem NQ:bd LA1:=trivial
def a3B:CF
 | [.k (.list (.list .q)) M]=>some (none,.k .bool (as3 M),[])
 | _=>none
def ya:az:=⟨135,false,a3B⟩
def Li (M:LM):bk:=⟨nU,λkey_=>match key_ with
 | 4=>some (⟨Nat,λi=>[(0,.k (.list (.list .q)) M),(2,.k .bool false),(15,.k (.list (.list .q)) M),(16,.k (.int .i64) ((M.length:Nat):Int)),(17,.k (.int .i64) ((i:Nat):Int))],
 λi=>[],λ_ i=>i<=M.length/\0<M.length/\((M.getD 0 []).length≠0)/\∀j,j<i->(M.getD j []).length=(M.getD 0 []).length,λi=>M.length-i⟩) | _=>none,nR,nU⟩
def yb (M:LM):Prop:=
 let t1:=M.getD (Int.toNat (0:Int)) [];
 let t2:=M.getD (0:Nat) [];
 M.length<=aB->bif decide ((↑M.length:Int)=0) then false=as3 M else ((0:Int)<=(0:Int)/\(0:Int)<(↑M.length:Int))/\(t1.length<=aB->bif
 decide ((↑t1.length:Int)=0) then false=as3 M else M.length<=aB->∃(x0:Nat),(M=M/\false=false/\M=M/\(↑M.length:Int)=↑M.length /\
 (0:Int)=(x0:Int))/\(x0<=M.length/\(0:Nat)<M.length/\t2.length≠(0:Nat)/\∀(j:Nat),j<x0->(M.getD j []).length=t2.length)/\∀(x:Nat),(x <=
 M.length/\(0:Nat)<M.length/\t2.length≠(0:Nat)/\∀(j:Nat),j<x->(M.getD j []).length=t2.length)->bif decide ((x:Int)<↑M.length) then ((0 :
 Int)<=(x:Int)/\(x:Int)<↑M.length)/\((M.getD (x:Int).toNat []).length<=aB->((0:Int)<=(0:Int)/\(0:Int)<(↑M.length:Int))/\(t1.length <=
 aB->bif !decide ((↑(M.getD (x:Int).toNat []).length:Int)=(↑t1.length:Int)) then false=as3 M else ((-9223372036854775808:Int)<=(x:Int)+1 /\
 (x:Int)+1<=(9223372036854775807:Int))/\∃(x':Nat),(M=M/\false=false/\M=M/\(↑M.length:Int)=↑M.length/\(x:Int)+1 =
 (x':Int))/\(x'<=M.length/\(0:Nat)<M.length/\t2.length≠(0:Nat)/\∀(j:Nat),j<x'->(M.getD j []).length=t2.length)/\M.length-x'<M.length-x))
 else true=as3 M)
theorem Gu (M:LM):aw LA1 [] (Li M) Tryz.f135 (.k .bool (as3 M)) [.k (.list (.list .q)) M]=yb M:=by kernel_rfl
theorem Gx (M:LM) (hf:cJ [.k (.list (.list .q)) M]):yb M:=by
 unfold yb;dsimp only;intro h0;unfold aB at h0;refine aH (λh=>?_) λh=>⟨by omega,λh1=>aH (λh2=>?_) λh2=>λ_=>⟨0,⟨rfl,rfl,rfl,rfl,rfl⟩,⟨by omega,by omega,?_,λj hj=>by omega⟩,λi ⟨hi,hp,ay,bB⟩=>aH (λh3=>⟨⟨by omega,h3⟩,λ_=>⟨by omega,λ_=>dP (λh4=>?_) λh4=>⟨by omega,i+1,⟨rfl,rfl,rfl,rfl,rfl⟩,⟨by omega,hp,ay,λj hj=>?_⟩,by omega⟩⟩⟩) λh3=>?_⟩⟩
 ·cases M with
  | nil=>rfl
  | cons=>simp at h;omega
 ·exact(ju (.inl (show(M.getD 0 []).length=0 by have h2:((((M.getD 0 []).length:Nat):Int))=0:=h2;omega))).symm
 ·have h2:¬((((M.getD 0 []).length:Nat):Int))=0:=h2;omega
 ·have h4:¬((((M.getD i []).length:Nat):Int))=(((M.getD 0 []).length:Nat):Int):=h4;exact(ju (.inr ⟨i,by omega,by omega⟩)).symm
 ·rcases cM j i with h | h
  ·exact bB j h
  ·have:j=i:=by omega
   subst this;have h4:((((M.getD j []).length:Nat):Int))=(((M.getD 0 []).length:Nat):Int):=h4;omega
 ·exact(nM hp ay λj hj=>bB j (by omega)).symm
theorem uz:aqJ (cfg []) ya:=cf NQ bp Tryz.func135 λa _ _ _ hc hg hf=>by change a3B a=_ at hc;unfold a3B at hc;split at hc<;>cases hc;cases aY (Gu _) (Gx _ hf);exact⟨rfl,by kernel_rfl,_,by assumption⟩
theorem ky {α:Type} {n m:Nat} {f:Nat->α} {v:α} (h:n<m) (hL:m<=aB):(aA n f).length+[v].length<=aB:=by simp;omega
theorem nQ {i n:Nat} (h:i<n) (hL:n<=aB):(-9223372036854775808:Int)<=(i:Int)+1/\(i:Int)+1<=9223372036854775807:=by unfold aB at hL;omega
theorem idx {i:Nat} {n:Int} (h:(i:Int)<n):0<=(i:Int)/\(i:Int)<n:=⟨by omega,h⟩
theorem sign_zero {x:Rat}:x.num.sign=0↔x=0:=by rw[GY,Gy]
noncomputable def Lv:List az:=ajN::Kx::[]
theorem pM:bd Lv:=⟨ajy,Aj,trivial⟩
def a3C:CF
 | [.k (.list (.list .rq)) M]=>some (none,.k .bool (as3 M),[])
 | _=>none
def ye:az:=⟨75,false,a3C⟩
def Lw (M:LM):bk:=⟨λkey_=>match key_ with | 4=>12 | _=>0,λkey_=>match key_ with
 | 2=>some (⟨Nat,λi=>[(0,.k (.list (.list .rq)) M),(3,.k (.int .i64) ((i:Nat):Int))],
 λi=>[],λ_ i=>i<=M.length/\∀j,j<i->(M.getD j []).length=(M.getD 0 []).length/\(M.getD j []).length≠0,λi=>M.length-i⟩) | _=>none,nR,nU⟩
def yf (M:LM):Prop:=∃(x0:Nat),(M=M/\(0:Int)=(x0:Int))/\(x0<=M.length/\∀(j:Nat),j<x0->(M.getD j []).length=(M.getD (0:Nat) []).length/\(M.getD j []).length≠(0 :
 Nat))/\∀(x:Nat),(x<=M.length/\∀(j:Nat),j<x->(M.getD j []).length=(M.getD (0:Nat) []).length/\(M.getD j []).length≠0)->M.length<=aB->bif
 decide ((x:Int)<↑M.length) then (0<=(x:Int)/\(x:Int)<↑M.length)/\((0:Int)<=(0:Int)/\(0:Int)<(↑M.length:Int))/\bif
 !decide ((↑(M.getD (x:Int).toNat []).length:Int)=(↑(M.getD (Int.toNat (0:Int)) []).length:Int)) then false=as3 M else (0<=(x:Int)/\(x:Int)
 < (↑M.length:Int))/\((M.getD (x:Int).toNat []).length<=aB->bif decide ((↑(M.getD (x:Int).toNat []).length:Int)=0) then false=as3 M else
 ((-9223372036854775808:Int)<=(x:Int)+1/\(x:Int)+1<=(9223372036854775807:Int))/\∃(x':Nat),(M=M/\(x:Int)+1=(↑x' :
 Int))/\(x'<=M.length/\∀(j:Nat),j<x'->(M.getD j []).length=(M.getD (0:Nat) []).length/\(M.getD j []).length≠0)/\M.length-x'<M.length-x)
 else M.length<=aB->decide ((0:Int)<(↑M.length:Int))=as3 M
theorem GD (M:LM):aw Lv [] (Lw M) Tryz.f75 (.k .bool (as3 M)) [.k (.list (.list .rq)) M]=yf M:=by kernel_rfl
theorem GF (M:LM) (hf:cJ [.k (.list (.list .rq)) M]):yf M:=by
 unfold yf;refine⟨0,⟨rfl,rfl⟩,⟨fi _,λj hj=>by omega⟩,λi ⟨hi,bB⟩ hL=>aH (λh=>⟨idx h,⟨by omega,by omega⟩,dP (λh'=>?_) λh'=>⟨idx h,λ_=>aH (λh3=>?_) λh3=>⟨nQ (by omega) hL,i+1,⟨rfl,rfl⟩,⟨by omega,λj hj=>?_⟩,by omega⟩⟩⟩) λh _=>?_⟩
 ·exact(ju (.inr ⟨i,by omega,λe=>h' (bX.2 e)⟩)).symm
 ·have h3:(M.getD i []).length=0:=by have:(((M.getD i []).length:Nat):Int)=0:=h3;omega
  have h':(M.getD i []).length=(M.getD 0 []).length:=bX.1 h';exact(ju (.inl (by omega))).symm
 ·rcases cM j i with h4 | h4
  ·exact bB j h4
  ·rw[show j=i by omega];exact⟨bX.1 h',λe=>h3 (bX.2 e)⟩
 ·rcases iS M.length with e | e
  ·rw[eJ (by omega),List.length_eq_zero_iff.1 e];rfl
  ·rw[kx (by omega)];exact(nM e (bB 0 (by omega)).2 λj hj=>(bB j (by omega)).1).symm
theorem uA:aqJ (cfg []) ye:=cf pM bp Tryz.func75 λa _ _ _ hc hg hf=>by change a3C a=_ at hc;unfold a3C at hc;split at hc<;>cases hc;cases aY (GD _) (GF _ hf);exact⟨rfl,by kernel_rfl,_,by assumption⟩
def a4D:CF
 | [.k (.list .rq) xs,.k .rq k]=>some (some (SL BQ xs/\Sq BQ k),.k (.list .rq) (aA xs.length λj=>xs.getD j 0*k),[])
 | _=>none
def GK:az:=⟨23,false,a4D⟩
def Ly (xs:List Rat) (k:Rat):bk:=⟨λkey_=>match key_ with | 5=>6 | _=>0,λkey_=>match key_ with
 | 3=>some (⟨Nat,λi=>[(0,.k (.list .rq) xs),(3,.pt 3 0 3 0 0),(5,.own 5 0 3),(6,.k (.int .i64) ((i:Nat):Int))],
 λi=>[(3,.box 34 (.k .rq k)),(5,.arr 34 .rq (aA i λj=>xs.getD j 0*k))],λ_ i=>i<=xs.length,λi=>xs.length-i⟩) | _=>none,nR,nU⟩
def yh (xs:List Rat) (k:Rat):Prop:=∃(x0:Nat),((xs=xs/\(0:Int)=(x0:Int))/\k=k/\(aA x0 λ(j:Nat)=>xs.getD j 0*k)=[])/\x0<=xs.length/\∀(x:Nat),x<=xs.length ->
 xs.length<=aB->bif decide ((x:Int)<↑xs.length) then (0<=(x:Int)/\(x:Int)<↑xs.length)/\(Sq BQ (xs.getD (x:Int).toNat (0 :
 Rat))/\Sq BQ k)/\(aA x λ(j:Nat)=>xs.getD j 0*k).length+[xs.getD (x:Int).toNat 0*k].length<=aB/\((-9223372036854775808:Int)<=(↑x :
 Int)+(1:Int)/\(x:Int)+1<=(9223372036854775807:Int))/\∃(x':Nat),((xs=xs/\(x:Int)+1=↑x')/\k=k/\(aA x λ(j:Nat)
 =>xs.getD j 0*k).append [xs.getD (x:Int).toNat 0*k]=aA x' λ(j:Nat)=>xs.getD j 0*k)/\x'<=xs.length/\xs.length-x' <
 xs.length-x else (aA x λ(j:Nat)=>xs.getD j 0*k)=aA xs.length λ(j:Nat)=>xs.getD j 0*k
theorem GL (xs:List Rat) (k:Rat):aw Lv [] (Ly xs k) Tryz.f23 (.k (.list .rq) (aA xs.length λj=>xs.getD j 0*k)) [.k (.list .rq) xs,.k .rq k]=yh xs k:=by kernel_rfl
theorem GM (xs:List Rat) (k:Rat) (hg:SL BQ xs/\Sq BQ k):yh xs k:=by unfold yh;refine⟨0,⟨⟨rfl,rfl⟩,rfl,rfl⟩,fi _,λi hi hL=>aH (λh=>⟨idx h,⟨hg.1 i,hg.2⟩,ky (by omega) hL,nQ (by omega) hL,i+1,⟨⟨rfl,rfl⟩,rfl,eD rfl⟩,by omega,by omega⟩) λh=>?_⟩;rw[show i=xs.length by omega]
theorem GO:aqJ (cfg []) GK:=cf pM bp Tryz.func23 λa _ _ _ hc hg hf=>by change a4D a=_ at hc;unfold a4D at hc;split at hc<;>cases hc;cases aY (GL _ _) (GM _ _ hg);exact⟨rfl,by kernel_rfl,_,by assumption⟩
def a4B:CF
 | [.k (.list .rq) xs,.k (.list .rq) ys,.k .rq k]=>some (some (xs.length<=ys.length/\SL BQ xs/\SL BQ ys/\Sq BQ k/\∀j,Sq BQ (k*ys.getD j 0)),.k (.list .rq) (aA xs.length λj=>xs.getD j 0-k*ys.getD j 0),[])
 | _=>none
def aot:az:=⟨20,false,a4B⟩
def aoB (xs ys:List Rat) (k:Rat):bk:=⟨λkey_=>match key_ with | 5=>11 | _=>0,λkey_=>match key_ with
 | 3=>some (⟨Nat,λi=>[(0,.k (.list .rq) xs),(1,.k (.list .rq) ys),(5,.pt 5 0 3 0 0),(7,.own 7 0 3),(8,.k (.int .i64) ((i:Nat):Int))],
 λi=>[(5,.box 34 (.k .rq k)),(7,.arr 34 .rq (aA i λj=>xs.getD j 0-k*ys.getD j 0))],λ_ i=>i<=xs.length,λi=>xs.length-i⟩) | _=>none,nR,nU⟩
def anK (xs ys:List Rat) (k:Rat):Prop:=∃(x0:Nat),((xs=xs/\ys=ys/\(0:Int)=(x0:Int))/\k=k/\(aA x0 λ(j:Nat)=>xs.getD j 0-k*ys.getD j 0)=[])/\x0<=xs.length/\∀
 (x:Nat),x<=xs.length->xs.length<=aB->bif decide ((x:Int)<↑xs.length) then (0<=(x:Int)/\(x:Int)<↑xs.length)/\((0:Int) <=
 (x:Int)/\(x:Int)<↑ys.length)/\(Sq BQ k/\Sq BQ (ys.getD (x:Int).toNat 0))/\(Sq BQ (xs.getD (x:Int).toNat 0)/\Sq BQ (k*ys.getD
 (x:Int).toNat (0:Rat)))/\(aA x λ(j:Nat)=>xs.getD j 0-k*ys.getD j 0).length+[xs.getD (x:Int).toNat 0-k*ys.getD (↑x :
 Int).toNat 0].length<=aB/\((-9223372036854775808:Int)<=(x:Int)+1/\(x:Int)+1<=(9223372036854775807:Int))/\∃(x':Nat),((xs =
 xs/\ys=ys/\(x:Int)+1=↑x')/\k=k/\(aA x λ(j:Nat)=>xs.getD j 0-k*ys.getD j 0).append [xs.getD (x:Int).toNat (0
 : Rat)-k*ys.getD (x:Int).toNat 0]=aA x' λ(j:Nat)=>xs.getD j 0-k*ys.getD j 0)/\x'<=xs.length/\xs.length-x'<xs.length -
 x else (aA x λ(j:Nat)=>xs.getD j 0-k*ys.getD j 0)=aA xs.length λ(j:Nat)=>xs.getD j 0-k*ys.getD j 0
theorem aoh (xs ys:List Rat) (k:Rat):aw Lv [] (aoB xs ys k) Tryz.f20 (.k (.list .rq) (aA xs.length λj=>xs.getD j 0-k*ys.getD j 0)) [.k (.list .rq) xs,.k (.list .rq) ys,.k .rq k]=anK xs ys k:=by kernel_rfl
theorem aoi (xs ys:List Rat) (k:Rat) (hg:xs.length<=ys.length/\SL BQ xs/\SL BQ ys/\Sq BQ k/\∀j,Sq BQ (k*ys.getD j 0)):anK xs ys k:=by obtain⟨h1,h2,h3,h4,h5⟩:=hg;unfold anK;refine⟨0,⟨⟨rfl,rfl,rfl⟩,rfl,rfl⟩,fi _,λi hi hL=>aH (λh=>⟨idx h,⟨by omega,by omega⟩,⟨h4,h3 i⟩,⟨h2 i,h5 i⟩,ky (by omega) hL,nQ (by omega) hL,i+1,⟨⟨rfl,rfl,rfl⟩,rfl,eD rfl⟩,by omega,by omega⟩) λh=>?_⟩;rw[show i=xs.length by omega]
theorem aoj:aqJ (cfg []) aot:=cf pM bp Tryz.func20 λa _ _ _ hc hg hf=>by change a4B a=_ at hc;unfold a4B at hc;split at hc<;>cases hc;cases aY (aoh _ _ _) (aoi _ _ _ hg);exact⟨rfl,by kernel_rfl,_,by assumption⟩
theorem ly {L:List az} {f:FuncId} {fr:Bool} {c c':CF} (h:aqJ (cfg L) ⟨f,fr,c⟩) (H:∀args g r hn,c' args=some (g,r,hn)->bt g->∃g',c args=some (g',r,hn)/\bt g'):aqJ (cfg L) ⟨f,fr,c'⟩:=
 ⟨h.ent,λargs g r hn hc hg=>by obtain⟨g',h1,h2⟩:=H args g r hn hc hg;exact h.ok args g' r hn h1 h2⟩
end Go.Proofs.YtlijkeolpmgioaaGreatDoor.AM
