/- The base of the proof: contracts of functions, the engine that shows them, and mathematics. -/
import Derived.Test.YtdgmgfaphpkocaaGreatDoorBd8
set_option maxRecDepth 100000
set_option linter.unusedVariables false
set_option linter.unusedSimpArgs false
set_option maxHeartbeats 1000000
namespace Go.Proofs.YtdgmgfaphpkocaaGreatDoor.AM
open Go.RowKit
theorem aoI.lu {ok:Nat->Prop} {w:World} {β:Bm} {x:Nat} {v:Value} (h:aoI ok w β (.k .nat x) v):v=nV x:=by obtain ⟨c,hc,hv⟩:=h;have hc:c=iD x:=hc;subst hc;exact hv
theorem aoI.Jt {ok:Nat->Prop} {w:World} {β:Bm} (x:Nat):aoI ok w β (.k .nat x) (nV x):=⟨iD x,rfl,rfl⟩
theorem aoI.xE {ok:Nat->Prop} {w:World} {β:Bm} {x:Nat} {v:Value} (h:aoI ok w β (.k .rn x) v):bJ x v w:=by obtain ⟨c,⟨u,rfl,h1⟩,hv⟩:=h;obtain ⟨A,k,rfl⟩:=h1.form;rw [hv];exact h1
theorem aoI.VB {ok:Nat->Prop} {w:World} {β:Bm} {x:Nat} {v:Value} (h:bJ x v w):aoI ok w β (.k .rn x) v:=⟨[v],⟨v,rfl,h⟩,rfl⟩
theorem FD {f:FuncId} {a:Array Value} {w:World} {x:Nat} (h:Calls Tryz.prog f a w (cg (nV x) w)):Calls Tryz.prog f a w (Gv (.k .nat x) w):=Calls.mono h fun e w' ⟨h1,h2⟩=>⟨_,h1,h2,.Jt x⟩
theorem VC {f:FuncId} {a:Array Value} {w:World} {x:Int} (h:Calls Tryz.prog f a w (cg (.int .i64 x) w)):Calls Tryz.prog f a w (Gv (.k (.int .i64) x) w):=Calls.mono h fun e w' ⟨h1,h2⟩=>⟨_,h1,h2,.mkInt _ x⟩
theorem xF {f:FuncId} {a:Array Value} {w:World} {x:Nat} (h:Calls Tryz.prog f a w (apN (bJ x) w)):Calls Tryz.prog f a w (Gv (.k .rn x) w):=Calls.mono h fun e w' ⟨v,h1,h2,h3⟩=>⟨v,h1,h3,.VB h2⟩
theorem ph {ok:Nat->Prop} {w:World} {β:Bm} {a b:AV} {u v:Value} (h1:aoI ok w β a u) (h2:aoI ok w β b v):aoI ok w β (.eX (.cons a (.cons b .nil))) (.tuple #[u,v]):=by obtain ⟨c1,a1,e1⟩:=h1;obtain ⟨c2,a2,e2⟩:=h2;exact ⟨[.tuple #[u,v]],⟨[u,v],rfl,c1,[v],a1,⟨c2,[],a2,rfl,by rw [e2];rfl⟩,by rw [e1];rfl⟩,rfl⟩
theorem FE {ok:Nat->Prop} {w:World} {β:Bm} {a b c:AV} {u v x:Value} (h1:aoI ok w β a u) (h2:aoI ok w β b v) (h3:aoI ok w β c x):aoI ok w β (.eX (.cons a (.cons b (.cons c .nil)))) (.tuple #[u,v,x]):=by obtain ⟨c1,a1,e1⟩:=h1;obtain ⟨c2,a2,e2⟩:=h2;obtain ⟨c3,a3,e3⟩:=h3;exact ⟨[.tuple #[u,v,x]],⟨[u,v,x],rfl,c1,[v,x],a1,⟨c2,[x],a2,⟨c3,[],a3,rfl,by rw [e3];rfl⟩,by rw [e2];rfl⟩,by rw [e1];rfl⟩,rfl⟩
def BN:Nat:=130000000000
theorem BV {j:Nat} (h:130000000000<=j):max BN BN<=j:=by unfold BN;omega
abbrev N1 (x:Nat):Option Prop:=some (Sm BN x)
abbrev N2 (x y:Nat):Option Prop:=some (Sm BN x/\Sm BN y)
abbrev T2 (a b:AV):AV:=.eX (.cons a (.cons b .nil))
abbrev T3 (a b c:AV):AV:=.eX (.cons a (.cons b (.cons c .nil)))
def Nf:az:=⟨92,false,on1 (.int .u64) (fun n=>some (0<=n/\n<18446744073709551616)) fun n=>.k .nat (Int.toNat n)⟩
theorem xG:aoH (cfg []) Nf:=nB (enters_of Tryz.func92 (by kernel_rfl) rfl) (fun _=>rfl) fun F n u w hg ht hu=>by obtain rfl:=hu.int;obtain ⟨m,rfl⟩:=Aa hg.1;have h2:((m:Nat):Int)<18446744073709551616:=hg.2;exact FD (H5 m (by unfold B64;omega) w)
def VD:az:=⟨115,false,on2 .nat .nat N2 fun x y=>.k .nat (x+y:Nat)⟩
theorem Pv:aoH (cfg []) VD:=iN (enters_of Tryz.func115 (by kernel_rfl) rfl) (fun _ _=>rfl) fun F x y u v w hg ht hu hv=>by obtain rfl:=hu.lu;obtain rfl:=hv.lu;exact FD (aex hg.1 hg.2 w (BV (by omega)))
def Ju:az:=⟨68,false,on2 .nat .nat N2 fun x y=>.k .nat (x*y:Nat)⟩
theorem zR:aoH (cfg []) Ju:=iN (enters_of Tryz.func68 (by kernel_rfl) rfl) (fun _ _=>rfl) fun F x y u v w hg ht hu hv=>by obtain rfl:=hu.lu;obtain rfl:=hv.lu;exact FD (aey hg.1 hg.2 w (BV (by omega)))
def Jv:az:=⟨93,false,on2 .nat .nat N2 fun x y=>.k (.int .i64) (bG x y)⟩
theorem zS:aoH (cfg []) Jv:=iN (enters_of Tryz.func93 (by kernel_rfl) rfl) (fun _ _=>rfl) fun F x y u v w hg ht hu hv=>by obtain rfl:=hu.lu;obtain rfl:=hv.lu;exact VC (aez hg.1 hg.2 w (BV (by omega)))
def vm:az:=⟨74,false,on1 .nat N1 fun x=>.k (.int .i64) ((bl x:Nat):Int)⟩
theorem qS:aoH (cfg []) vm:=nB (enters_of Tryz.func74 (by kernel_rfl) rfl) (fun _=>rfl) fun F x u w hg ht hu=>by obtain rfl:=hu.lu;exact VC (acq hg w (by unfold BN;omega))
def VE:az:=⟨116,false,on2 .nat .nat N2 fun x y=>T2 (.k .nat (x-y:Nat)) (.k .bool (decide ((y:Nat)<=x)))⟩
theorem Pw:aoH (cfg []) VE:=iN (enters_of Tryz.func116 (by kernel_rfl) rfl) (fun _ _=>rfl) fun F x y u v w hg ht hu hv=>by
 obtain rfl:=hu.lu;obtain rfl:=hv.lu;by_cases h:(y:Nat)<=x
 ·exact Calls.mono (aeA hg.1 hg.2 h w (BV (by omega))) fun e w' ⟨h1,h2⟩=>⟨_,h1,h2,ph (.Jt _) (by rw [xX h];exact .dN _)⟩
 ·exact Calls.mono (UO hg.1 hg.2 (Nat.lt_of_not_le h) w (BV (by omega))) fun e w' ⟨h1,h2⟩=>⟨_,h1,h2,ph (by rw [Nat.sub_eq_zero_of_le (Nat.le_of_not_le h)];exact .Jt _) (by rw [tS h];exact .dN _)⟩
def Jw:az:=⟨94,false,on2 .nat .nat N2 fun x y=>T3 (.k .nat (x/y:Nat)) (.k .nat (if (y:Nat)=0 then 0 else x%y)) (.k .bool (!decide ((y:Nat)=0)))⟩
theorem zT:aoH (cfg []) Jw:=iN (enters_of Tryz.func94 (by kernel_rfl) rfl) (fun _ _=>rfl) fun F x y u v w hg ht hu hv=>by
 obtain rfl:=hu.lu;obtain rfl:=hv.lu;by_cases h:(y:Nat)=0
 ·subst h;exact Calls.mono (div_zero x w) fun e w' ⟨h1,h2⟩=>⟨_,h1,h2,FE (by rw [Nat.div_zero];exact .Jt _) (.Jt _) (.dN _)⟩
 ·rw [cM h];exact Calls.mono (cdiv hg.1 hg.2 h w (BV (by omega))) fun e w' ⟨h1,h2⟩=>⟨_,h1,h2,FE (.Jt _) (.Jt _) (by rw [tS h];exact .dN _)⟩
def FF:az:=⟨95,false,on1 .nat (fun _=>none) fun x=>T2 (.k (.int .u64) (if (x:Nat)<18446744073709551616 then ((x:Nat):Int) else 0)) (.k .bool (decide ((x:Nat)<18446744073709551616)))⟩
theorem FG:aoH (cfg []) FF:=nB (enters_of Tryz.func95 (by kernel_rfl) rfl) (fun _=>rfl) fun F x u w hg ht hu=>by
 obtain rfl:=hu.lu;by_cases h:(x:Nat)<18446744073709551616
 ·have hx:(x:Nat)<B64:=h;rw [eJ h];exact Calls.mono (Oh x hx w) fun e w' ⟨h1,h2⟩=>⟨_,h1,h2,ph (.mkInt _ _) (by rw [xX h];exact .dN _)⟩
 ·have hx:B64<=(x:Nat):=Ho h;rw [cM h];exact Calls.mono (Oi x hx w) fun e w' ⟨h1,h2⟩=>⟨_,h1,h2,ph (.mkInt _ _) (by rw [tS h];exact .dN _)⟩
def VF:az:=⟨96,false,on2 .nat .nat (fun x y=>some ((x:Nat)≠0/\(y:Nat)≠0/\Sm BN x/\Sm BN y)) fun x y=>.k .nat (Nat.gcd x y)⟩
theorem Px:aoH (cfg []) VF:=iN (enters_of Tryz.func96 (by kernel_rfl) rfl) (fun _ _=>rfl) fun F x y u v w hg ht hu hv=>by obtain rfl:=hu.lu;obtain rfl:=hv.lu;obtain ⟨h1,h2,h3,h4⟩:=hg;exact FD (BL x y (yx h1) (yx h2) (by unfold Sm BN at h3;omega) (by unfold Sm BN at h4;omega) w ht)
def VG:az:=⟨113,false,on2 .rn .rn N2 fun x y=>.k .rn (x+y:Nat)⟩
theorem Py:aoH (cfg []) VG:=iN (enters_of Tryz.func113 (by kernel_rfl) rfl) (fun _ _=>rfl) fun F x y u v w hg ht hu hv=>xF (ac3 hg.1 hg.2 w hu.xE hv.xE (BV (by omega)))
def VH:az:=⟨114,false,on2 .rn .rn (fun x y=>some (Sm BN x/\(y:Nat)<=x)) fun x y=>.k .rn (x-y:Nat)⟩
theorem Pz:aoH (cfg []) VH:=iN (enters_of Tryz.func114 (by kernel_rfl) rfl) (fun _ _=>rfl) fun F x y u v w hg ht hu hv=>xF (ac4 hg.1 hg.2 w hu.xE hv.xE (by unfold BN;omega))
def VI:az:=⟨87,false,on2 .rn .rn N2 fun x y=>.k .rn (x*y:Nat)⟩
theorem PA:aoH (cfg []) VI:=iN (enters_of Tryz.func87 (by kernel_rfl) rfl) (fun _ _=>rfl) fun F x y u v w hg ht hu hv=>xF (ac5 hg.1 hg.2 w hu.xE hv.xE (BV (by omega)))
def Jx:az:=⟨105,false,on2 .rn .rn N2 fun x y=>.k (.int .i64) (bG x y)⟩
theorem zU:aoH (cfg []) Jx:=iN (enters_of Tryz.func105 (by kernel_rfl) rfl) (fun _ _=>rfl) fun F x y u v w hg ht hu hv=>VC (ac6 hg.1 hg.2 w hu.xE hv.xE (BV (by omega)))
def aa4:az:=⟨53,false,on1 (.int .u64) (fun n=>some (0<=n/\n<18446744073709551616)) fun n=>.k .rn (Int.toNat n)⟩
theorem VJ:aoH (cfg []) aa4:=nB (enters_of Tryz.func53 (by kernel_rfl) rfl) (fun _=>rfl) fun F n u w hg ht hu=>by obtain rfl:=hu.int;obtain ⟨m,rfl⟩:=Aa hg.1;have h2:((m:Nat):Int)<18446744073709551616:=hg.2;exact xF (xk m (by unfold B64;omega) w)
def VK:az:=⟨112,false,on2 .rn .rn (fun x y=>some (Sm BN x/\Sm BN y/\(y:Nat)≠0)) fun x y=>T2 (.k .rn (x/y:Nat)) (.k .rn (x%y:Nat))⟩
theorem PB:aoH (cfg []) VK:=iN (enters_of Tryz.func112 (by kernel_rfl) rfl) (fun _ _=>rfl) fun F x y u v w hg ht hu hv=>by obtain ⟨h1,h2,h3⟩:=hg;unfold Sm BN at h1 h2;exact Calls.mono (FC x y u v w hu.xE hv.xE (by omega) (by omega) h3) fun _ _ ⟨p,q,h1,h2,h3,h4⟩=>⟨_,h1,h4,ph (.VB h2) (.VB h3)⟩
def VM:az:=⟨81,false,on1 .rn N1 fun x=>.k .nat (x:Nat)⟩
theorem PC:aoH (cfg []) VM:=nB (enters_of Tryz.func81 (by kernel_rfl) rfl) (fun _=>rfl) fun F x u w hg ht hu=>by have hg:Sm BN x:=hg;exact FD (Bz x (by unfold Sm BN at hg;omega) u w hu.xE)
def BZ:Nat:=64000000000
noncomputable def LN:List az:=Nf::Jv::vm::[]
theorem xH:bd LN:=⟨xG,zS,qS,trivial⟩
def fzFrom:CF
 | [.k .bool b,.k .nat n]=>some (some (Sm BN n),.k .z (bW b n),[])
 | _=>none
def sj:az:=⟨60,false,fzFrom⟩
def PD (b:Bool) (n:Nat):bk:=⟨fun key_=>match key_ with | 1=>7 | _=>0,nL,nR,nU⟩
def BW (b:Bool) (n:Nat):Prop:=bif b then Sm BN n/\(decide ((0:Int)<(↑(bl n):Int))=true->n≠0)/\bW (decide ((0:Int)<(↑(bl n):Int))) n=bW b n else (false=true->n≠(0 :
 Nat))/\bW false n=bW b n
theorem Jy (b:Bool) (n:Nat):aw LN [] (PD b n) Tryz.f60 (.k .z (bW b n)) [.k .bool b,.k .nat n]=BW b n:=by kernel_rfl
theorem Jz (b:Bool) (n:Nat) (hg:Sm BN n) (hf:cJ [.k .bool b,.k .nat n]):BW b n:=by
 unfold BW;refine nC (fun h=>?_) fun h=>?_
 ·subst h;refine ⟨hg,fun h' e=>?_,?_⟩
  ·have:=(at0 n).1 (Dd h');omega
  ·rcases nP n with e | e
   ·subst e;rw [gf];rfl
   ·rw [xX ((at0 n).2 e)]
 ·subst h;exact ⟨fun h=>(by cases h),rfl⟩
theorem nG:aoH (cfg []) sj:=cf xH bp Tryz.func60 (by kernel_rfl) fun args g r hn hc hg hf=>by
 replace hc:fzFrom args=some (g,r,hn):=hc;unfold fzFrom at hc;split at hc
 ·obtain ⟨rfl,rfl,rfl⟩:=aN hc;cases aY (Jy _ _) (Jz _ _ hg hf);exact ⟨rfl,by kernel_rfl,_,by assumption⟩
 ·cases hc
def fzAbs:CF
 | [.k .z x]=>some (none,.k .nat x.natAbs,[])
 | _=>none
def JA:az:=⟨62,false,fzAbs⟩
def VN (x:Int):bk:=⟨nU,nL,nR,nU⟩
def VO (x:Int):Prop:=x.natAbs=x.natAbs
theorem PE (x:Int):aw LN [] (VN x) Tryz.f62 (.k .nat x.natAbs) [.k .z x]=VO x:=by kernel_rfl
theorem PF (x:Int) (hf:cJ [.k .z x]):VO x:=by rfl
theorem zV:aoH (cfg []) JA:=cf xH bp Tryz.func62 (by kernel_rfl) fun args g r hn hc hg hf=>by
 replace hc:fzAbs args=some (g,r,hn):=hc;unfold fzAbs at hc;split at hc
 ·obtain ⟨rfl,rfl,rfl⟩:=aN hc;cases aY (PE _) (PF _ hf);exact ⟨rfl,by kernel_rfl,_,by assumption⟩
 ·cases hc
def BX:CF
 | [.k .z x]=>some (some (Sm BN x.natAbs),.k (.int .i64) x.sign,[])
 | _=>none
def vn:az:=⟨35,false,BX⟩
def PG (x:Int):bk:=⟨nU,nL,nR,nU⟩
def BY (x:Int):Prop:=bif decide (x<0) then (-1:Int)=x.sign else Sm BN x.natAbs/\bif decide ((0:Int)<(↑(bl x.natAbs):Int)) then (1:Int)=x.sign else (0:Int)=x.sign
theorem JB (x:Int):aw LN [] (PG x) Tryz.f35 (.k (.int .i64) x.sign) [.k .z x]=BY x:=by kernel_rfl
theorem JC (x:Int) (hg:Sm BN x.natAbs):BY x:=by
 unfold BY;refine aH (fun h=>(yr h).symm) fun h=>⟨hg,aH (fun h2=>?_) fun h2=>?_⟩
 ·have:=(at0 _).1 h2;exact (yw (by omega)).symm
 ·have h3:¬0<x.natAbs:=fun h3=>h2 ((at0 _).2 h3);have:x=0:=by omega
  subst this;rfl
theorem qT:aoH (cfg []) vn:=cf xH bp Tryz.func35 (by kernel_rfl) fun args g r hn hc hg hf=>by
 replace hc:BX args=some (g,r,hn):=hc;unfold BX at hc;split at hc
 ·obtain ⟨rfl,rfl,rfl⟩:=aN hc;cases aY (JB _) (JC _ hg);exact ⟨rfl,by kernel_rfl,_,by assumption⟩
 ·cases hc
def fzCmp:CF
 | [.k .z x,.k .z y]=>some (some (Sm BN x.natAbs/\Sm BN y.natAbs),.k (.int .i64) (dS x y),[])
 | _=>none
def VP:az:=⟨89,false,fzCmp⟩
def VQ (x y:Int):bk:=⟨nU,nL,nR,nU⟩
def JD (x y:Int):Prop:=bif decide (x<0) then bif decide (y<0) then (Sm BN y.natAbs/\Sm BN x.natAbs)/\bG y.natAbs x.natAbs=dS x y else bif decide (x<0) then
 (-1:Int)=dS x y else bif decide (y<0) then (1:Int)=dS x y else (Sm BN x.natAbs/\Sm BN y.natAbs)/\bG x.natAbs y.natAbs=dS x y else bif decide
 (x<0) then (-1:Int)=dS x y else bif decide (y<0) then (1:Int)=dS x y else (Sm BN x.natAbs/\Sm BN y.natAbs)/\bG x.natAbs y.natAbs =
 dS x y
theorem PH (x y:Int):aw LN [] (VQ x y) Tryz.f89 (.k (.int .i64) (dS x y)) [.k .z x,.k .z y]=JD x y:=by kernel_rfl
theorem PI (x y:Int) (hg:Sm BN x.natAbs/\Sm BN y.natAbs):JD x y:=by unfold JD;obtain ⟨h1,h2⟩:=hg;refine aH (fun hx=>aH (fun hy=>⟨⟨h2,h1⟩,Ym hx hy⟩) fun hy=>aH (fun _=>Yn hx hy) fun h=>absurd hx h) fun hx=>aH (fun h=>absurd h hx) fun _=>aH (fun hy=>Yo hx hy) fun hy=>⟨⟨h1,h2⟩,Yl hx hy⟩
theorem PJ:aoH (cfg []) VP:=cf xH bp Tryz.func89 (by kernel_rfl) fun args g r hn hc hg hf=>by
 replace hc:fzCmp args=some (g,r,hn):=hc;unfold fzCmp at hc;split at hc
 ·obtain ⟨rfl,rfl,rfl⟩:=aN hc;cases aY (PH _ _) (PI _ _ hg);exact ⟨rfl,by kernel_rfl,_,by assumption⟩
 ·cases hc
def fzOfI:CF
 | [.k (.int .i64) n]=>some (some (ax n),.k .z n,[])
 | _=>none
def VR:az:=⟨71,false,fzOfI⟩
def VS (n:Int):bk:=⟨nU,nL,nR,nU⟩
def JE (n:Int):Prop:=
 let t1:=(0:Int)-IntKind.u64.wrap n;
 bif decide (n<0) then ((0:Int)<=IntKind.u64.wrap t1/\IntKind.u64.wrap t1<(18446744073709551616:Int))/\(true=true->(IntKind.u64.wrap t1).toNat≠(0 :
 Nat))/\bW true (IntKind.u64.wrap t1).toNat=n else ((0:Int)<=IntKind.u64.wrap n/\IntKind.u64.wrap n<(18446744073709551616:Int))/\(false=true ->
 (IntKind.u64.wrap n).toNat≠0)/\bW false (IntKind.u64.wrap n).toNat=n
theorem PK (n:Int):aw LN [] (VS n) Tryz.f71 (.k .z n) [.k (.int .i64) n]=JE n:=by kernel_rfl
theorem PL (n:Int) (hg:ax n):JE n:=by
 unfold JE;have h1 : -9223372036854775808<=n:=hg.1;have h2:n<=9223372036854775807:=hg.2;refine aH (fun h=>?_) fun h=>?_
 ·have e:IntKind.u64.wrap ((0:Int)-IntKind.u64.wrap n) = -n:=by simp [IntKind.wrap,IntKind.signed,IntKind.bits];omega
  rw [e];refine ⟨⟨by omega,by omega⟩,fun _=>by omega,?_⟩;show -((Int.toNat (-n):Nat):Int)=n;omega
 ·have e:IntKind.u64.wrap n=n:=by simp [IntKind.wrap,IntKind.signed,IntKind.bits];omega
  rw [e];refine ⟨⟨by omega,by omega⟩,fun h=>by (cases h),?_⟩;show ((Int.toNat n:Nat):Int)=n;omega
theorem PM:aoH (cfg []) VR:=cf xH bp Tryz.func71 (by kernel_rfl) fun args g r hn hc hg hf=>by
 replace hc:fzOfI args=some (g,r,hn):=hc;unfold fzOfI at hc;split at hc
 ·obtain ⟨rfl,rfl,rfl⟩:=aN hc;cases aY (PK _) (PL _ hg);exact ⟨rfl,by kernel_rfl,_,by assumption⟩
 ·cases hc
noncomputable def VT:List az:=sj::Nf::VD::Ju::Jv::vm::VE::Jw::FF::VF::[]
theorem vo:bd VT:=⟨nG,xG,Pv,zR,zS,qS,Pw,zT,FG,Px,trivial⟩
def JF:CF
 | [.k .z x]=>(fun (x:Int)=>some (some (Sm BN x.natAbs),.k .z (-x:Int),[])) x
 | _=>none
def JG:az:=⟨78,false,JF⟩
def VU (x:Int):bk:=⟨nU,nL,nR,nU⟩
def JH (x:Int):Prop:=Sm BN x.natAbs/\bW (!decide (x<0)) x.natAbs = -x
theorem PN (x:Int):aw VT [] (VU x) Tryz.f78 (.k .z (-x:Int)) [.k .z x]=JH x:=by kernel_rfl
theorem PO (x:Int) (hg:Sm BN x.natAbs):JH x:=by
 unfold JH;refine ⟨hg,?_⟩;unfold bW;by_cases hx:x<0
 ·rw [xX hx];show ((x.natAbs:Nat):Int) = -x;omega
 ·rw [tS hx];show -((x.natAbs:Nat):Int) = -x;omega
theorem zW:aoH (cfg []) JG:=cf vo bp Tryz.func78 (by kernel_rfl) fun args g r hn hc hg hf=>by
 replace hc:JF args=some (g,r,hn):=hc;unfold JF at hc;split at hc
 ·obtain ⟨rfl,rfl,rfl⟩:=aN hc;cases aY (PN _) (PO _ hg);exact ⟨rfl,by kernel_rfl,_,by assumption⟩
 ·cases hc
def JI:CF
 | [.k .z x,.k .z y]=>some (some (Sm BZ x.natAbs/\Sm BZ y.natAbs),.k .z (x+y:Int),[])
 | _=>none
def VV:az:=⟨91,false,JI⟩
def VW (x y:Int):bk:=⟨fun key_=>match key_ with | 2=>7 | _=>0,nL,nR,nU⟩
def JJ (x y:Int):Prop:=bif decide (x<0) == decide (y<0) then (Sm BN x.natAbs/\Sm BN y.natAbs)/\Sm BN (x.natAbs+y.natAbs)/\bW (decide (x<0)) (x.natAbs +
 y.natAbs)=x+y else (Sm BN x.natAbs/\Sm BN y.natAbs)/\bif decide (y.natAbs<=x.natAbs) then Sm BN (x.natAbs-y.natAbs)/\bW (decide (x<0)) (x.natAbs -
 y.natAbs)=x+y else (Sm BN y.natAbs/\Sm BN x.natAbs)/\Sm BN (y.natAbs-x.natAbs)/\bW (decide (y<0)) (y.natAbs-x.natAbs)=x+y
theorem PR (x y:Int):aw VT [] (VW x y) Tryz.f91 (.k .z (x+y:Int)) [.k .z x,.k .z y]=JJ x y:=by kernel_rfl
theorem PS (x y:Int) (hg:Sm BZ x.natAbs/\Sm BZ y.natAbs):JJ x y:=by
 unfold JJ;obtain ⟨h1,h2⟩:=hg;have b1:Sm BN x.natAbs:=h1.le (by unfold BZ BN;omega);have b2:Sm BN y.natAbs:=h2.le (by unfold BZ BN;omega);refine nC (fun h=>⟨⟨b1,b2⟩,(h1.add h2).le (by unfold BZ BN;omega),?_⟩) fun h=>⟨⟨b1,b2⟩,aH (fun h'=>⟨b1.sub _,?_⟩) fun h'=>⟨⟨b2,b1⟩,b2.sub _,?_⟩⟩
 all_goals unfold bW;by_cases hx:x<0 <;> by_cases hy:y<0 <;> simp [hx,hy] at h ⊢ <;> omega
theorem PT:aoH (cfg []) VV:=cf vo bp Tryz.func91 (by kernel_rfl) fun args g r hn hc hg hf=>by
 replace hc:JI args=some (g,r,hn):=hc;unfold JI at hc;split at hc
 ·obtain ⟨rfl,rfl,rfl⟩:=aN hc;cases aY (PR _ _) (PS _ _ hg);exact ⟨rfl,by kernel_rfl,_,by assumption⟩
 ·cases hc
def JK:CF
 | [.k .z x,.k .z y]=>some (some (Sm BZ x.natAbs/\Sm BZ y.natAbs),.k .z (x*y:Int),[])
 | _=>none
def JL:az:=⟨64,false,JK⟩
def VX (x y:Int):bk:=⟨fun key_=>match key_ with | 1=>10 | _=>0,nL,nR,nU⟩
def JM (x y:Int):Prop:=(Sm BN x.natAbs/\Sm BN y.natAbs)/\Sm BN (x.natAbs*y.natAbs)/\bW (!decide (x<0) == decide (y<0)) (x.natAbs*y.natAbs)=x*y
theorem PU (x y:Int):aw VT [] (VX x y) Tryz.f64 (.k .z (x*y:Int)) [.k .z x,.k .z y]=JM x y:=by kernel_rfl
theorem PV (x y:Int) (hg:Sm BZ x.natAbs/\Sm BZ y.natAbs):JM x y:=by unfold JM;obtain ⟨h1,h2⟩:=hg;exact ⟨⟨h1.le (by unfold BZ BN;omega),h2.le (by unfold BZ BN;omega)⟩,(h1.mul h2).le (by unfold BZ BN;omega),vL rfl rfl⟩
theorem zX:aoH (cfg []) JL:=cf vo bp Tryz.func64 (by kernel_rfl) fun args g r hn hc hg hf=>by
 replace hc:JK args=some (g,r,hn):=hc;unfold JK at hc;split at hc
 ·obtain ⟨rfl,rfl,rfl⟩:=aN hc;cases aY (PU _ _) (PV _ _ hg);exact ⟨rfl,by kernel_rfl,_,by assumption⟩
 ·cases hc
theorem zY {p q g:Nat} (hp:Sm BN p) (hq:Sm BN q) (h0:q≠0) (hqp:q<p) (e:p.gcd q=g) :
 bif decide (p<(18446744073709551616:Nat)) then
 ∃(x0:Nat×Nat),
 (((if p<(18446744073709551616:Nat) then (p:Int) else (0:Int))=(x0.fst:Int) /\
 (if q<(18446744073709551616:Nat) then (q:Int) else (0:Int))=(x0.snd:Int))/\(0:Nat)=(0:Nat)) /\
 (x0.fst<(18446744073709551616:Nat)/\x0.snd<(18446744073709551616:Nat)/\x0.fst.gcd x0.snd=g) /\
 ∀(fg:Nat×Nat),
 fg.fst<(18446744073709551616:Nat)/\fg.snd<(18446744073709551616:Nat)/\fg.fst.gcd fg.snd=g ->
 bif decide ((0:Int)<(fg.snd:Int)) then
 (fg.snd:Int)≠(0:Int) /\
 ∃(x':Nat×Nat),
 (((fg.snd:Int)=(x'.fst:Int)/\(fg.fst:Int).tmod (fg.snd:Int)=(x'.snd:Int))/\(0:Nat)=(0:Nat)) /\
 (x'.fst<(18446744073709551616:Nat)/\x'.snd<(18446744073709551616:Nat)/\x'.fst.gcd x'.snd=g)/\x'.snd<fg.snd
 else ((0:Int)<=(fg.fst:Int)/\(fg.fst:Int)<(18446744073709551616:Int))/\(fg.fst:Int).toNat=g
 else (p≠(0:Nat)/\q≠(0:Nat)/\Sm BN p/\Sm BN q)/\p.gcd q=g:=by
 refine aH (fun h=>⟨(p,q),⟨⟨eJ h,eJ (by omega)⟩,rfl⟩,⟨h,by show q<_;omega,e⟩,fun ⟨a,b⟩ ⟨h1,h2,h3⟩=>?_⟩) fun h=>⟨⟨by omega,h0,hp,hq⟩,e⟩
 dsimp only at h1 h2 h3 ⊢
 refine aH (fun h4=>?_) fun h4=>⟨⟨by omega,by omega⟩,?_⟩
 ·have hb:0<b:=by omega
  have hm:a%b<b:=vu _ hb
  refine ⟨by omega,(b,a%b),⟨⟨rfl,?_⟩,rfl⟩,⟨h2,by show a%b<_;omega,?_⟩,hm⟩
  ·show (a:Int).tmod (b:Int)=((a%b:Nat):Int)
   rw [Int.tmod_eq_emod_of_nonneg (by omega)];rfl
  ·rw [<-h3];show b.gcd (a%b)=a.gcd b
   rw [Hk a b,N9 b a,Hk]
 ·have:b=0:=by omega
  subst this
  rw [NN] at h3
  rw [<-h3];rfl
def JN:CF
 | [.k .z x,.k .z y]=>some (some (Sm BN x.natAbs/\Sm BN y.natAbs),.k .nat (Nat.gcd x.natAbs y.natAbs),[])
 | _=>none
def VY:az:=⟨65,false,JN⟩
def VZ (x y:Int):bk:=⟨fun key_=>match key_ with | 1=>7 | 7=>3 | 14=>4 | _=>0,fun key_=>match key_ with
 | 13=>some (⟨Nat×Nat,fun p=>[(4,.pt 4 0 2 0 0),(10,.k (.int .u64) ((p.1:Nat):Int)),(12,.k (.int .u64) ((p.2:Nat):Int))],
 fun _=>[(4,.box 41 (.k .nat (0:Nat)))],fun _ p=>p.1<18446744073709551616/\p.2<18446744073709551616/\Nat.gcd p.1 p.2=Nat.gcd x.natAbs y.natAbs,fun p=>p.2⟩) | _=>none,fun key_=>match key_ with
 | 1=>some (⟨Unit,fun _=>[(4,.pt 4 0 2 0 0),(5,.pt 5 0 2 0 0),(6,.pt 6 0 2 0 0)],fun _=>[(4,.box 41 (.k .nat (0:Nat))),(5,.box 41 (.k .nat x.natAbs)),(6,.box 41 (.k .nat y.natAbs))]⟩)
 | 7=>some (⟨Nat×Nat,fun _=>[(4,.pt 4 0 2 0 0),(5,.pt 5 0 2 0 0),(6,.pt 6 0 2 0 0)],fun p=>[(4,.box 41 (.k .nat (0:Nat))),(5,.box 41 (.k .nat p.1)),(6,.box 41 (.k .nat p.2))]⟩) | _=>none,nU⟩
def amN (x y:Int):Prop:=(0:Nat)=(0:Nat)/\x.natAbs=x.natAbs/\y.natAbs=y.natAbs
def JO (x y:Int):Prop:=∃(y1:Unit),(((((amN x y/\amN x y)/\(amN x y/\amN x y/\amN x y)/\amN x y/\amN x y/\amN x y)/\((amN x y/\amN x y/\amN x y)/\(amN x y
 /\ amN x y)/\amN x y)/\(amN x y/\amN x y/\amN x y)/\(amN x y/\amN x y)/\amN x y)/\(((amN x y/\amN x y)/\(amN x y/\amN x y/\amN x y) /\
 amN x y/\amN x y/\amN x y)/\((amN x y/\amN x y)/\(amN x y/\amN x y)/\amN x y/\amN x y)/\((amN x y/\amN x y/\amN x y)/\(amN x y /\
 amN x y)/\(amN x y/\amN x y)/\amN x y)/\(amN x y/\amN x y/\amN x y)/\(amN x y/\amN x y)/\(amN x y/\amN x y)/\amN x y)/\(((amN x y /\
 amN x y/\amN x y)/\(amN x y/\amN x y)/\amN x y)/\((amN x y/\amN x y/\amN x y)/\(amN x y/\amN x y)/\(amN x y/\amN x y)/\amN x y) /\
 ((amN x y/\amN x y)/\amN x y)/\(amN x y/\amN x y)/\amN x y)/\((amN x y/\amN x y/\amN x y)/\(amN x y/\amN x y)/\amN x y)/\((amN x y /\
 amN x y/\amN x y)/\(amN x y/\amN x y)/\(amN x y/\amN x y)/\amN x y)/\((amN x y/\amN x y)/\amN x y)/\(amN x y/\amN x y)/\amN x y) /\
 ((((amN x y/\amN x y)/\(amN x y/\amN x y/\amN x y)/\amN x y/\amN x y/\amN x y)/\((amN x y/\amN x y)/\(amN x y/\amN x y)/\amN x y /\
 amN x y)/\((amN x y/\amN x y/\amN x y)/\(amN x y/\amN x y)/\(amN x y/\amN x y)/\amN x y)/\(amN x y/\amN x y/\amN x y)/\(amN x y /\
 amN x y)/\(amN x y/\amN x y)/\amN x y)/\(((amN x y/\amN x y)/\(amN x y/\amN x y)/\amN x y/\amN x y)/\((amN x y/\amN x y)/\amN x y) /\
 (amN x y/\amN x y)/\amN x y)/\(((amN x y/\amN x y/\amN x y)/\(amN x y/\amN x y)/\(amN x y/\amN x y)/\amN x y)/\((amN x y/\amN x y) /\
 amN x y)/\((amN x y/\amN x y)/\amN x y)/\amN x y)/\((amN x y/\amN x y/\amN x y)/\(amN x y/\amN x y)/\(amN x y/\amN x y)/\amN x y) /\
 ((amN x y/\amN x y)/\amN x y)/\((amN x y/\amN x y)/\amN x y)/\amN x y)/\((((amN x y/\amN x y/\amN x y)/\(amN x y/\amN x y)/\amN x y)
 /\ ((amN x y/\amN x y/\amN x y)/\(amN x y/\amN x y)/\(amN x y/\amN x y)/\amN x y)/\((amN x y/\amN x y)/\amN x y)/\(amN x y/\amN x y)
 /\ amN x y)/\(((amN x y/\amN x y/\amN x y)/\(amN x y/\amN x y)/\(amN x y/\amN x y)/\amN x y)/\((amN x y/\amN x y)/\amN x y)/\((amN x
 y/\amN x y)/\amN x y)/\amN x y)/\(((amN x y/\amN x y)/\amN x y)/\(amN x y/\amN x y)/\amN x y)/\((amN x y/\amN x y)/\amN x y)/\amN x
 y)/\(((amN x y/\amN x y/\amN x y)/\(amN x y/\amN x y)/\amN x y)/\((amN x y/\amN x y/\amN x y)/\(amN x y/\amN x y)/\(amN x y/\amN x
 y)/\amN x y)/\((amN x y/\amN x y)/\amN x y)/\(amN x y/\amN x y)/\amN x y)/\(((amN x y/\amN x y/\amN x y)/\(amN x y/\amN x y)/\(amN
 x y/\amN x y)/\amN x y)/\((amN x y/\amN x y)/\amN x y)/\((amN x y/\amN x y)/\amN x y)/\amN x y)/\(((amN x y/\amN x y)/\amN x y) /\
 (amN x y/\amN x y)/\amN x y)/\((amN x y/\amN x y)/\amN x y)/\amN x y)/\(Sm BN x.natAbs/\Sm BN y.natAbs)/\bif decide (bG x.natAbs y.natAbs<(0 :
 Int)) then Sm BN x.natAbs/\bif decide ((↑(bl x.natAbs):Int)=0) then y.natAbs=x.natAbs.gcd y.natAbs else (Sm BN y.natAbs/\Sm BN x.natAbs)/\∃(y2:Nat ×
 Nat),((((0:Nat)=(0:Nat)/\x.natAbs=y2.1/\(if x.natAbs=(0:Nat) then (0:Nat) else y.natAbs%x.natAbs)=y2.2)/\(0:Nat)=(0:Nat)/\x.natAbs=y2.1 /\
 (if x.natAbs=(0:Nat) then (0:Nat) else y.natAbs%x.natAbs)=y2.2)/\(0:Nat)=(0:Nat)/\x.natAbs=y2.1/\(if x.natAbs=(0:Nat) then (0:Nat) else
 y.natAbs%x.natAbs)=y2.2)/\Sm BN y2.2/\bif decide ((↑(bl y2.2):Int)=0) then y2.1=x.natAbs.gcd y.natAbs else bif decide (y2.1<(18446744073709551616 :
 Nat)) then ∃(x0:Nat×Nat),(((if y2.1<(18446744073709551616:Nat) then (↑y2.1:Int) else (0:Int))=(↑x0.1:Int)/\(if y2.2<(18446744073709551616:Nat) then
 (↑y2.2:Int) else (0:Int))=(↑x0.2:Int))/\(0:Nat)=0)/\(x0.1<(18446744073709551616:Nat)/\x0.2<(18446744073709551616:Nat)/\x0.1.gcd x0.2 =
 x.natAbs.gcd y.natAbs)/\∀(y3:Nat×Nat),y3.1<(18446744073709551616:Nat)/\y3.2<(18446744073709551616:Nat)/\y3.1.gcd y3.2=x.natAbs.gcd y.natAbs->bif
 decide ((0:Int)<(↑y3.2:Int)) then (↑y3.2:Int)≠(0:Int)/\∃(x':Nat×Nat),(((↑y3.2:Int)=↑x'.1/\(↑y3.1:Int).tmod (↑y3.2:Int)=(↑x'.2 :
 Int))/\(0:Nat)=0)/\(x'.1<(18446744073709551616:Nat)/\x'.2<(18446744073709551616:Nat)/\x'.1.gcd x'.2=x.natAbs.gcd y.natAbs)/\x'.2<y3.2 else
 (0<=(↑y3.1:Int)/\(↑y3.1:Int)<(18446744073709551616:Int))/\(↑y3.1:Int).toNat=x.natAbs.gcd y.natAbs else (y2.1≠(0:Nat)/\y2.2≠(0:Nat)/\Sm BN
 y2.1/\Sm BN y2.2)/\y2.1.gcd y2.2=x.natAbs.gcd y.natAbs else Sm BN y.natAbs/\bif decide ((↑(bl y.natAbs):Int)=0) then x.natAbs=x.natAbs.gcd y.natAbs
 else (Sm BN x.natAbs/\Sm BN y.natAbs)/\∃(y2:Nat×Nat),((((0:Nat)=(0:Nat)/\y.natAbs=y2.1/\(if y.natAbs=(0:Nat) then (0:Nat) else x.natAbs %
 y.natAbs)=y2.2)/\(0:Nat)=(0:Nat)/\y.natAbs=y2.1/\(if y.natAbs=(0:Nat) then (0:Nat) else x.natAbs%y.natAbs)=y2.2)/\(0:Nat)=(0:Nat)/\y.natAbs
 = y2.1/\(if y.natAbs=(0:Nat) then (0:Nat) else x.natAbs%y.natAbs)=y2.2)/\Sm BN y2.2/\bif decide ((↑(bl y2.2):Int)=0) then y2.1=x.natAbs.gcd
 y.natAbs else bif decide (y2.1<(18446744073709551616:Nat)) then ∃(x0:Nat×Nat),(((if y2.1<(18446744073709551616:Nat) then (↑y2.1:Int) else (0:Int)) =
 (↑x0.1:Int)/\(if y2.2<(18446744073709551616:Nat) then (↑y2.2:Int) else (0:Int))=(↑x0.2:Int))/\(0:Nat)=0)/\(x0.1<(18446744073709551616 :
 Nat)/\x0.2<(18446744073709551616:Nat)/\x0.1.gcd x0.2=x.natAbs.gcd y.natAbs)/\∀(y3:Nat×Nat),y3.1<(18446744073709551616:Nat)/\y3.2 <
 (18446744073709551616:Nat)/\y3.1.gcd y3.2=x.natAbs.gcd y.natAbs->bif decide ((0:Int)<(↑y3.2:Int)) then (↑y3.2:Int)≠(0:Int)/\∃(x':Nat×Nat),
 (((↑y3.2:Int)=↑x'.1/\(↑y3.1:Int).tmod (↑y3.2:Int)=↑x'.2)/\(0:Nat)=0)/\(x'.1<(18446744073709551616:Nat)/\x'.2 <
 (18446744073709551616:Nat)/\x'.1.gcd x'.2=x.natAbs.gcd y.natAbs)/\x'.2<y3.2 else (0<=(↑y3.1:Int)/\(↑y3.1:Int)<(18446744073709551616:Int)) /\
 (↑y3.1:Int).toNat=x.natAbs.gcd y.natAbs else (y2.1≠(0:Nat)/\y2.2≠(0:Nat)/\Sm BN y2.1/\Sm BN y2.2)/\y2.1.gcd y2.2=x.natAbs.gcd y.natAbs
theorem PW (x y:Int):aw VT [] (VZ x y) Tryz.f65 (.k .nat (Nat.gcd x.natAbs y.natAbs)) [.k .z x,.k .z y]=JO x y:=by kernel_rfl
theorem PX (x y:Int) (hg:Sm BN x.natAbs/\Sm BN y.natAbs):JO x y:=by
 unfold JO;obtain ⟨h1,h2⟩:=hg;have ZJ:∀{n:Nat},((bl n:Nat):Int)=0->n=0:=fun {n} h=>by
  rcases nP n with e | e
  ·exact e
  ·have:=(at0 n).2 e;omega
 have PY:∀{n:Nat},¬((bl n:Nat):Int)=0->n≠0:=fun {n} h e=>h (by rw [e,gf];rfl);refine ⟨(),by simp [amN],⟨h1,h2⟩,aH (fun hc=>⟨h1,aH (fun h=>?_) fun h=>⟨⟨h2,h1⟩,(x.natAbs,y.natAbs%x.natAbs),?_,(h2.mod _),aH (fun h3=>?_) fun h3=>zY h1 (h2.mod _) (PY h3) (vu _ (yx (PY h))) ?_⟩⟩) fun hc=>⟨h2,aH (fun h=>?_) fun h=>⟨⟨h1,h2⟩,(y.natAbs,x.natAbs%y.natAbs),?_,(h1.mod _),aH (fun h3=>?_) fun h3=>zY h2 (h1.mod _) (PY h3) (vu _ (yx (PY h))) ?_⟩⟩⟩
 ·rw [ZJ h,Nat.gcd_zero_left]
 ·rw [cM (PY h)];simp
 ·exact (Nat.gcd_eq_left (Nat.dvd_of_mod_eq_zero (ZJ h3))).symm
 ·rw [N9 x.natAbs y.natAbs,Hk]
 ·rw [ZJ h,NN]
 ·rw [cM (PY h)];simp
 ·exact (Nat.gcd_eq_right (Nat.dvd_of_mod_eq_zero (ZJ h3))).symm
 ·rw [Hk x.natAbs y.natAbs,N9 y.natAbs x.natAbs,Hk]
theorem PZ:aoH (cfg []) VY:=cf vo bp Tryz.func65 (by kernel_rfl) fun args g r hn hc hg hf=>by
 replace hc:JN args=some (g,r,hn):=hc;unfold JN at hc;split at hc
 ·obtain ⟨rfl,rfl,rfl⟩:=aN hc;cases aY (PW _ _) (PX _ _ hg);exact ⟨rfl,by kernel_rfl,_,by assumption⟩
 ·cases hc
def BQ:Nat:=20000000000
theorem B1 {n:Nat}:((bl n:Nat):Int)=1↔n=1:=by
 constructor
 ·intro h;have h1:bl n<=1:=by omega
  have h2:=(fZ n 1).1 h1;have h3:(0:Int)<((bl n:Nat):Int):=by omega
  have h4:=(at0 n).1 h3;omega
 ·intro h;subst h;have h1:=(at0 1).2 (by omega);have h2:bl 1<=1:=(fZ 1 1).2 (by omega);omega
theorem ZK {n:Nat}:((bl n:Nat):Int)=0↔n=0:=by
 constructor
 ·intro h;rcases nP n with e | e
  ·exact e
  ·have:=(at0 n).2 e;omega
 ·intro h;rw [h,gf];rfl
theorem FH {x:Rat}:d1 x.den=0↔x.den=1:=by unfold d1;have:=x.den_pos;split <;> omega
theorem afz {k d:Nat} (h:Sm k d):Sm k (d1 d):=by
 unfold d1;split
 ·exact Sm.zero k
 ·exact h
theorem afA {k a b:Nat} (ha:Sm k a) (h0:a≠0):Sm k (Nat.gcd a b):=ha.mono (Mi (by omega) (EX _ _))
theorem zZ {k a b:Nat} (hb:Sm k b) (h0:b≠0):Sm k (Nat.gcd a b):=hb.mono (Mi (by omega) (G8 _ _))
theorem fN (n:Int):j6 n 0=(n:Rat):=by unfold j6;rw [eJ rfl,Mk]
theorem adb {n:Int} {d:Nat} (h:d≠0):j6 n d=mkRat n d:=by unfold j6;rw [cM h]
theorem ZL (x:Rat):j6 x.num (d1 x.den)=x:=by
 unfold j6 d1;have h:=C1 x;have:=x.den_pos;by_cases e:x.den=1
 ·rw [eJ e,eJ rfl];rw [e] at h;exact h
 ·rw [cM e,cM (by omega)];exact h
theorem Ng (n:Int) {m:Int} (h:m<0):mkRat (-n) m.natAbs=(n:Rat)/(m:Rat):=by rw [<-N7, <- Rat.neg_divInt_neg,show -m=((m.natAbs:Nat):Int) from by omega,QL]
theorem mk_pos (n:Int) {m:Int} (h:¬m<0):mkRat n m.natAbs=(n:Rat)/(m:Rat):=by rw [<-N7, <- QL,show ((m.natAbs:Nat):Int)=m from by omega]
theorem ZM {y:Rat} (h0:y≠0):mkRat (bW (decide (y.num.sign<0)) y.den) y.num.natAbs=y⁻¹/\(bW (decide (y.num.sign<0)) y.den).natAbs.Coprime y.num.natAbs:=by
 have hn:y.num≠0:=fun e=>h0 (Hf.1 e);have e1:bW (decide (y.num.sign<0)) y.den=(y⁻¹).num:=by
  rw [Rat.num_inv];rcases Int.lt_or_gt_of_ne hn with h | h
  ·rw [yr h,show decide ((-1:Int)<0)=true from rfl];show -((y.den:Nat):Int)=_;omega
  ·rw [yw h,show decide ((1:Int)<0)=false from rfl];show ((y.den:Nat):Int)=_;omega
 have e2:(y⁻¹).den=y.num.natAbs:=by rw [Rat.den_inv,cM hn]
 rw [e1, <- e2];exact ⟨C1 _,(y⁻¹).reduced⟩
theorem P0 {x y:Rat} (hx:Sq BQ x) (hy:Sq BQ y) {g a b h:Nat} {u:Int} (hg:g=x.den.gcd y.den) (ha:a=x.den/g) (hb:b=y.den/g) (hu:u=x.num*b+y.num*a) (hh:h=u.natAbs.gcd g) :
  Sq BQ x/\Sm BN x.den/\Sq BQ y/\Sm BN y.den/\(Sm BN x.den/\Sm BN y.den)/\Sq BQ x/\(Sm BN x.den/\Sm BN g/\g≠0)/\Sq BQ y/\(Sm BN y.den/\Sm BN g/\g≠0)/\(Sm BZ x.num.natAbs/\Sm BZ b)/\(Sm BZ y.num.natAbs/\Sm BZ a)/\(Sm BZ (x.num*(b:Int)).natAbs/\Sm BZ (y.num*(a:Int)).natAbs)/\Sm BN g/\(Sm BN u.natAbs/\Sm BN g)/\(Sm BZ u.natAbs/\Sm BZ h/\h≠0/\h∣u.natAbs)/\Sq BQ y/\(Sm BN y.den/\Sm BN h/\h≠0)/\(Sm BN a/\Sm BN (y.den/h))/\(Sm BN (a*(y.den/h))/\a*(y.den/h)≠0/\(u/(h:Int)).natAbs.Coprime (a*(y.den/h)))/\mkRat (u/(h:Int)) (a*(y.den/h))=x+y:=by
 obtain ⟨k1,k2⟩:=add_eq x y hg ha hb hu hh
 have gp:g≠0:=by rw [hg];exact Hi (Ln _ x.den_pos)
 have hp:h≠0:=by rw [hh];exact Hi (CO _ (yx gp))
 have sg:Sm BQ g:=by rw [hg];exact afA hx.den x.den_nz
 have sh:Sm BQ h:=by rw [hh];exact zZ sg gp
 have sa:Sm BQ a:=by rw [ha];exact hx.den.div _
 have sb:Sm BQ b:=by rw [hb];exact hy.den.div _
 have p1:Sm (BQ+BQ) (x.num*(b:Int)).natAbs:=by rw [C0];exact hx.num.mul sb
 have p2:Sm (BQ+BQ) (y.num*(a:Int)).natAbs:=by rw [C0];exact hy.num.mul sa
 have su:Sm (BQ+BQ+1) u.natAbs:=by rw [hu];exact (p1.S7 p2).le (by omega)
 have l1:BQ<=BN:=by unfold BQ BN;omega
 have l2:BQ<=BZ:=by unfold BQ BZ;omega
 have l3:BQ+BQ+1<=BZ:=by unfold BQ BZ;omega
 have l4:BQ+BQ+1<=BN:=by unfold BQ BN;omega
 rw [k1,k2]
 exact ⟨hx,hx.den.le l1,hy,hy.den.le l1,⟨hx.den.le l1,hy.den.le l1⟩,hx,⟨hx.den.le l1,sg.le l1,gp⟩,hy,⟨hy.den.le l1,sg.le l1,gp⟩,⟨hx.num.le l2,sb.le l2⟩,⟨hy.num.le l2,sa.le l2⟩,⟨p1.le (by omega),p2.le (by omega)⟩,sg.le l1,⟨su.le l4,sg.le l1⟩,⟨su.le l3,sh.le l2,hp,by rw [hh];exact EX _ _⟩,hy,⟨hy.den.le l1,sh.le l1,hp⟩,⟨sa.le l1,(hy.den.div _).le l1⟩,⟨(hx.add hy).den.le l4,(x+y).den_nz,(x+y).reduced⟩,C1 _⟩
theorem P2 {x y:Rat} (hx:Sq BQ x) (hy:Sq BQ y) {g h:Nat} (hg:g=x.num.natAbs.gcd y.den) (hh:h=y.num.natAbs.gcd x.den) :
  Sq BQ y/\Sm BN y.den/\(Sm BN x.num.natAbs/\Sm BN y.den)/\Sq BQ x/\Sm BN x.den/\(Sm BN y.num.natAbs/\Sm BN x.den)/\(Sm BZ x.num.natAbs/\Sm BZ g/\g≠0/\g∣x.num.natAbs)/\(Sm BZ y.num.natAbs/\Sm BZ h/\h≠0/\h∣y.num.natAbs)/\(Sm BZ (x.num/(g:Int)).natAbs/\Sm BZ (y.num/(h:Int)).natAbs)/\Sq BQ x/\(Sm BN x.den/\Sm BN h/\h≠0)/\Sq BQ y/\(Sm BN y.den/\Sm BN g/\g≠0)/\(Sm BN (x.den/h)/\Sm BN (y.den/g))/\(Sm BN (x.den/h*(y.den/g))/\x.den/h*(y.den/g)≠0/\(x.num/(g:Int)*(y.num/(h:Int))).natAbs.Coprime (x.den/h*(y.den/g)))/\mkRat (x.num/(g:Int)*(y.num/(h:Int))) (x.den/h*(y.den/g))=x*y:=by
 obtain ⟨k1,k2⟩:=mul_eq x y hg hh
 have gp:g≠0:=by rw [hg];exact Hi (CO _ y.den_pos)
 have hp:h≠0:=by rw [hh];exact Hi (CO _ x.den_pos)
 have sg:Sm BQ g:=by rw [hg];exact zZ hy.den y.den_nz
 have sh:Sm BQ h:=by rw [hh];exact zZ hx.den x.den_nz
 have dg:g∣x.num.natAbs:=by rw [hg];exact EX _ _
 have dh:h∣y.num.natAbs:=by rw [hh];exact EX _ _
 have l1:BQ<=BN:=by unfold BQ BN;omega
 have l2:BQ<=BZ:=by unfold BQ BZ;omega
 have l4:BQ+BQ<=BN:=by unfold BQ BN;omega
 rw [k1,k2]
 exact ⟨hy,hy.den.le l1,⟨hx.num.le l1,hy.den.le l1⟩,hx,hx.den.le l1,⟨hy.num.le l1,hx.den.le l1⟩,⟨hx.num.le l2,sg.le l2,gp,dg⟩,⟨hy.num.le l2,sh.le l2,hp,dh⟩,⟨(hx.num.S9 (yx gp) dg).le l2,(hy.num.S9 (yx hp) dh).le l2⟩,hx,⟨hx.den.le l1,sh.le l1,hp⟩,hy,⟨hy.den.le l1,sg.le l1,gp⟩,⟨(hx.den.div _).le l1,(hy.den.div _).le l1⟩,⟨(hx.mul hy).den.le l4,(x*y).den_nz,(x*y).reduced⟩,C1 _⟩
noncomputable def B2:List az:=vm::Jw::sj::vn::VR::JG::JL::[]
theorem lL:bd B2:=⟨qS,zT,nG,qT,PM,zW,zX,trivial⟩
def fqWhole:CF
 | [.k .q x]=>some (some (Sq BQ x),.k .bool (decide (x.den=1)),[])
 | _=>none
def FI:az:=⟨63,false,fqWhole⟩
def JP (x:Rat):bk:=⟨nU,nL,nR,nU⟩
def xI (x:Rat):Prop:=Sm BN (d1 x.den)/\decide ((↑(bl (d1 x.den)):Int)=0)=decide (x.den=(1:Nat))
theorem FJ (x:Rat):aw B2 [] (JP x) Tryz.f63 (.k .bool (decide (x.den=1))) [.k .q x]=xI x:=by kernel_rfl
theorem FK (x:Rat) (hg:Sq BQ x):xI x:=by unfold xI;exact ⟨(afz hg.den).le (by unfold BQ BN;omega),GU.2 (ZK.trans FH)⟩
theorem FL:aoH (cfg []) FI:=jl lL bp Tryz.func63 (by kernel_rfl) (by kernel_rfl) rfl (by kernel_rfl) fun args g r hn hc hg hf=>by
 replace hc:fqWhole args=some (g,r,hn):=hc;unfold fqWhole at hc;split at hc
 ·obtain ⟨rfl,rfl,rfl⟩:=aN hc;exact ⟨rfl,by kernel_rfl,_,(FJ ..).mpr (FK _ hg)⟩
 ·cases hc
def fqOver:CF
 | [.k .nat a,.k .nat b]=>some (some (Sm BN a/\Sm BN b/\b≠0),.k .nat (a/b:Nat),[])
 | _=>none
def Nh:az:=⟨67,false,fqOver⟩
def P3 (a b:Nat):bk:=⟨nU,nL,nR,nU⟩
def B3 (a b:Nat):Prop:=Sm BN b/\bif decide ((↑(bl b):Int)=(1:Int)) then a=a/b else (Sm BN a/\Sm BN b)/\a/b=a/b
theorem JQ (a b:Nat):aw B2 [] (P3 a b) Tryz.f67 (.k .nat (a/b:Nat)) [.k .nat a,.k .nat b]=B3 a b:=by kernel_rfl
theorem JR (a b:Nat) (hg:Sm BN a/\Sm BN b/\b≠0):B3 a b:=by unfold B3;obtain ⟨h1,h2,h3⟩:=hg;exact ⟨h2,aH (fun h=>by rw [B1.1 h,Nat.div_one]) fun _=>⟨⟨h1,h2⟩,rfl⟩⟩
theorem JS:aoH (cfg []) Nh:=jl lL bp Tryz.func67 (by kernel_rfl) (by kernel_rfl) rfl (by kernel_rfl) fun args g r hn hc hg hf=>by
 replace hc:fqOver args=some (g,r,hn):=hc;unfold fqOver at hc;split at hc
 ·obtain ⟨rfl,rfl,rfl⟩:=aN hc;exact ⟨rfl,by kernel_rfl,_,(JQ ..).mpr (JR _ _ hg)⟩
 ·cases hc
def fqTimes:CF
 | [.k .z n,.k .nat d]=>some (some (Sm BZ n.natAbs/\Sm BZ d),.k .z (n*(d:Int):Int),[])
 | _=>none
def FM:az:=⟨90,false,fqTimes⟩
def JT (n:Int) (d:Nat):bk:=⟨fun key_=>match key_ with | 1=>3 | _=>0,nL,nR,nU⟩
def xJ (n:Int) (d:Nat):Prop:=Sm BN d/\(Sm BZ n.natAbs/\Sm BZ (bW false d).natAbs)/\n*bW false d=n*(↑d:Int)
theorem FN (n:Int) (d:Nat):aw B2 [] (JT n d) Tryz.f90 (.k .z (n*(d:Int):Int)) [.k .z n,.k .nat d]=xJ n d:=by kernel_rfl
theorem FO (n:Int) (d:Nat) (hg:Sm BZ n.natAbs/\Sm BZ d):xJ n d:=by unfold xJ;exact ⟨hg.2.le (by unfold BZ BN;omega),hg,rfl⟩
theorem FP:aoH (cfg []) FM:=jl lL bp Tryz.func90 (by kernel_rfl) (by kernel_rfl) rfl (by kernel_rfl) fun args g r hn hc hg hf=>by
 replace hc:fqTimes args=some (g,r,hn):=hc;unfold fqTimes at hc;split at hc
 ·obtain ⟨rfl,rfl,rfl⟩:=aN hc;exact ⟨rfl,by kernel_rfl,_,(FN ..).mpr (FO _ _ hg)⟩
 ·cases hc
def B4:CF
 | [.k .z n,.k .nat d]=>some (some (Sm BN d/\d≠0/\n.natAbs.Coprime d),.k .q (mkRat n d),[])
 | _=>none
def Ni:az:=⟨59,false,B4⟩
def P4 (n:Int) (d:Nat):bk:=⟨nU,nL,nR,nU⟩
def B5 (n:Int) (d:Nat):Prop:=Sm BN d/\bif decide ((↑(bl d):Int)=(1:Int)) then ((0:Nat)=(0:Nat)\/(0:Nat)≠(1:Nat)/\n.natAbs.Coprime (0:Nat))/\j6 n (0:Nat)=mkRat n d else (d
 = (0:Nat)\/d≠(1:Nat)/\n.natAbs.Coprime d)/\j6 n d=mkRat n d
theorem JU (n:Int) (d:Nat):aw B2 [] (P4 n d) Tryz.f59 (.k .q (mkRat n d)) [.k .z n,.k .nat d]=B5 n d:=by kernel_rfl
theorem JV (n:Int) (d:Nat) (hg:Sm BN d/\d≠0/\n.natAbs.Coprime d):B5 n d:=by unfold B5;obtain ⟨h1,h2,h3⟩:=hg;exact ⟨h1,aH (fun h=>⟨.inl rfl,by rw [fN,B1.1 h,Mk]⟩) fun h=>⟨.inr ⟨fun e=>h (B1.2 e),h3⟩,adb h2⟩⟩
theorem JW:aoH (cfg []) Ni:=jl lL bp Tryz.func59 (by kernel_rfl) (by kernel_rfl) rfl (by kernel_rfl) fun args g r hn hc hg hf=>by
 replace hc:B4 args=some (g,r,hn):=hc;unfold B4 at hc;split at hc
 ·obtain ⟨rfl,rfl,rfl⟩:=aN hc;exact ⟨rfl,by kernel_rfl,_,(JU ..).mpr (JV _ _ hg)⟩
 ·cases hc
def fqOf:CF
 | [.k (.int .i64) n]=>some (some (ax n),.k .q ((n:Int):Rat),[])
 | _=>none
def aa5:az:=⟨32,false,fqOf⟩
def ZN (n:Int):bk:=⟨nU,nL,nR,nU⟩
def V0 (n:Int):Prop:=((-9223372036854775808:Int)<=n/\n<=(9223372036854775807:Int))/\((0:Nat)=(0:Nat)\/(0:Nat)≠(1:Nat)/\n.natAbs.Coprime (0:Nat))/\j6 n (0:Nat) =
 (↑n:Rat)
theorem V2 (n:Int):aw B2 [] (ZN n) Tryz.f32 (.k .q ((n:Int):Rat)) [.k (.int .i64) n]=V0 n:=by kernel_rfl
theorem V4 (n:Int) (hg:ax n):V0 n:=by unfold V0;exact ⟨hg,.inl rfl,fN n⟩
theorem V5:aoH (cfg []) aa5:=jl lL bp Tryz.func32 (by kernel_rfl) (by kernel_rfl) rfl (by kernel_rfl) fun args g r hn hc hg hf=>by
 replace hc:fqOf args=some (g,r,hn):=hc;unfold fqOf at hc;split at hc
 ·obtain ⟨rfl,rfl,rfl⟩:=aN hc;exact ⟨rfl,by kernel_rfl,_,(V2 ..).mpr (V4 _ hg)⟩
 ·cases hc
def JX:CF
 | [.k .q x]=>some (none,.k .z x.num,[])
 | _=>none
def V6:az:=⟨133,false,JX⟩
def V7 (x:Rat):bk:=⟨nU,nL,nR,nU⟩
def V8 (x:Rat):Prop:=x.num=x.num
theorem P5 (x:Rat):aw B2 [] (V7 x) Tryz.f133 (.k .z x.num) [.k .q x]=V8 x:=by kernel_rfl
theorem P6 (x:Rat) (hf:cJ [.k .q x]):V8 x:=by rfl
theorem P7:aoH (cfg []) V6:=jl lL bp Tryz.func133 (by kernel_rfl) (by kernel_rfl) rfl (by kernel_rfl) fun args g r hn hc hg hf=>by
 replace hc:JX args=some (g,r,hn):=hc;unfold JX at hc;split at hc
 ·obtain ⟨rfl,rfl,rfl⟩:=aN hc;exact ⟨rfl,by kernel_rfl,_,(P5 ..).mpr (P6 _ hf)⟩
 ·cases hc
def B6:CF
 | [.k .q x]=>some (some (Sq BQ x),.k (.int .i64) (x.num.sign:Int),[])
 | _=>none
def Nj:az:=⟨12,false,B6⟩
def P8 (x:Rat):bk:=⟨nU,nL,nR,nU⟩
def Nk (x:Rat):Prop:=Sm BN x.num.natAbs/\x.num.sign=x.num.sign
theorem JY (x:Rat):aw B2 [] (P8 x) Tryz.f12 (.k (.int .i64) (x.num.sign:Int)) [.k .q x]=Nk x:=by kernel_rfl
theorem JZ (x:Rat) (hg:Sq BQ x):Nk x:=by exact ⟨hg.num.le (by unfold BQ BN;omega),rfl⟩
theorem J0:aoH (cfg []) Nj:=jl lL bp Tryz.func12 (by kernel_rfl) (by kernel_rfl) rfl (by kernel_rfl) fun args g r hn hc hg hf=>by
 replace hc:B6 args=some (g,r,hn):=hc;unfold B6 at hc;split at hc
 ·obtain ⟨rfl,rfl,rfl⟩:=aN hc;exact ⟨rfl,by kernel_rfl,_,(JY ..).mpr (JZ _ hg)⟩
 ·cases hc
def J1:CF
 | [.k .q x]=>some (some (Sq BQ x),.k .q (-x:Rat),[])
 | _=>none
def V9:az:=⟨45,false,J1⟩
def Wa (x:Rat):bk:=⟨fun key_=>match key_ with | 1=>5 | _=>0,nL,nR,nU⟩
def J2 (x:Rat):Prop:=Sm BN x.num.natAbs/\(d1 x.den=(0:Nat)\/d1 x.den≠(1:Nat)/\(-x.num).natAbs.Coprime (d1 x.den))/\j6 (-x.num) (d1 x.den) = -x
theorem P9 (x:Rat):aw B2 [] (Wa x) Tryz.f45 (.k .q (-x:Rat)) [.k .q x]=J2 x:=by kernel_rfl
theorem Qb (x:Rat) (hg:Sq BQ x):J2 x:=by
 unfold J2;refine ⟨hg.num.le (by unfold BQ BN;omega),?_,?_⟩
 ·by_cases e:x.den=1
  ·exact .inl (FH.2 e)
  ·refine .inr ?_;unfold d1;rw [cM e,Int.natAbs_neg];exact ⟨e,x.reduced⟩
 ·exact ZL (-x)
theorem Qc:aoH (cfg []) V9:=jl lL bp Tryz.func45 (by kernel_rfl) (by kernel_rfl) rfl (by kernel_rfl) fun args g r hn hc hg hf=>by
 replace hc:J1 args=some (g,r,hn):=hc;unfold J1 at hc;split at hc
 ·obtain ⟨rfl,rfl,rfl⟩:=aN hc;exact ⟨rfl,by kernel_rfl,_,(P9 ..).mpr (Qb _ hg)⟩
 ·cases hc
noncomputable def ZO:List az:=FI::Nh::FM::Ni::Nj::V9::Nf::Ju::sj::JA::vn::VP::JG::VV::JL::VY::[]
theorem B7:bd ZO:=⟨FL,JS,FP,JW,J0,Qc,xG,zR,nG,zV,qT,PJ,zW,PT,zX,PZ,trivial⟩
def J3:CF
 | [.k .q x]=>some (some (Sq BQ x),.k .nat x.den,[])
 | _=>none
def J4:az:=⟨61,false,J3⟩
def Wb (x:Rat):bk:=⟨nU,nL,nR,nU⟩
def J5 (x:Rat):Prop:=Sq BQ x/\bif decide (x.den=(1:Nat)) then ((0:Int)<=(1:Int)/\(1:Int)<(18446744073709551616:Int))/\Int.toNat (1:Int)=x.den else d1 x.den=x.den
theorem Qd (x:Rat):aw ZO [] (Wb x) Tryz.f61 (.k .nat x.den) [.k .q x]=J5 x:=by kernel_rfl
theorem Qe (x:Rat) (hg:Sq BQ x):J5 x:=by unfold J5;refine ⟨hg,aH (fun h=>⟨by omega,h.symm⟩) fun h=>?_⟩;unfold d1;exact cM h
theorem z6:aoH (cfg []) J4:=jl B7 bp Tryz.func61 (by kernel_rfl) (by kernel_rfl) rfl (by kernel_rfl) fun args g r hn hc hg hf=>by
 replace hc:J3 args=some (g,r,hn):=hc;unfold J3 at hc;split at hc
 ·obtain ⟨rfl,rfl,rfl⟩:=aN hc;exact ⟨rfl,by kernel_rfl,_,(Qd ..).mpr (Qe _ hg)⟩
 ·cases hc
def B8:CF
 | [.k .z n,.k .nat b]=>some (some (Sm BZ n.natAbs/\Sm BZ b/\b≠0/\b∣n.natAbs),.k .z (n/(b:Int):Int),[])
 | _=>none
def Nl:az:=⟨66,false,B8⟩
def Qf (n:Int) (b:Nat):bk:=⟨fun key_=>match key_ with | 1=>6 | _=>0,nL,nR,nU⟩
def B9 (n:Int) (b:Nat):Prop:=Sm BN n.natAbs/\(Sm BN n.natAbs/\Sm BN b/\b≠0)/\Sm BN (n.natAbs/b)/\bW (decide (n.sign<0)) (n.natAbs/b)=n/(↑b:Int)
theorem J6 (n:Int) (b:Nat):aw ZO [] (Qf n b) Tryz.f66 (.k .z (n/(b:Int):Int)) [.k .z n,.k .nat b]=B9 n b:=by kernel_rfl
theorem J7 (n:Int) (b:Nat) (hg:Sm BZ n.natAbs/\Sm BZ b/\b≠0/\b∣n.natAbs):B9 n b:=by
 unfold B9;obtain ⟨h1,h2,h3,h4⟩:=hg;have l:BZ<=BN:=by unfold BZ BN;omega
 refine ⟨h1.le l,⟨h1.le l,h2.le l,h3⟩,(h1.div _).le l,?_⟩;rw [GU.2 (show n.sign<0↔n<0 from Hr)];exact My (yx h3) h4
theorem J8:aoH (cfg []) Nl:=jl B7 bp Tryz.func66 (by kernel_rfl) (by kernel_rfl) rfl (by kernel_rfl) fun args g r hn hc hg hf=>by
 replace hc:B8 args=some (g,r,hn):=hc;unfold B8 at hc;split at hc
 ·obtain ⟨rfl,rfl,rfl⟩:=aN hc;exact ⟨rfl,by kernel_rfl,_,(J6 ..).mpr (J7 _ _ hg)⟩
 ·cases hc
noncomputable def LF3:List az:=J4::Nl::ZO
theorem Nn:bd LF3:=⟨z6,J8,B7⟩
def J9:CF
 | [.k .z n,.k .nat d]=>some (some (Sm BZ n.natAbs/\Sm BZ d/\d≠0),.k .q (mkRat n d),[])
 | _=>none
def Wc:az:=⟨108,false,J9⟩
def Wd (n:Int) (d:Nat):bk:=⟨fun key_=>match key_ with | 1=>5 | 2=>5 | _=>0,nL,nR,nU⟩
def We (n:Int) (d:Nat):Prop:=
 let t1:=bW false d;
 Sm BN d/\(Sm BN n.natAbs/\Sm BN t1.natAbs)/\(Sm BZ n.natAbs/\Sm BZ (n.natAbs.gcd t1.natAbs)/\n.natAbs.gcd t1.natAbs≠(0:Nat)/\n.natAbs.gcd t1.natAbs∣n.natAbs)
 /\ (Sm BN d/\Sm BN (n.natAbs.gcd t1.natAbs)/\n.natAbs.gcd t1.natAbs≠0)/\(Sm BN (d/n.natAbs.gcd t1.natAbs)/\d/n.natAbs.gcd t1.natAbs≠(0:Nat)/\(n /
 (↑(n.natAbs.gcd t1.natAbs):Int)).natAbs.Coprime (d/n.natAbs.gcd t1.natAbs))/\mkRat (n/(↑(n.natAbs.gcd t1.natAbs):Int)) (d/n.natAbs.gcd t1.natAbs)=mkRat n d
theorem Qg (n:Int) (d:Nat):aw LF3 [] (Wd n d) Tryz.f108 (.k .q (mkRat n d)) [.k .z n,.k .nat d]=We n d:=by kernel_rfl
theorem Qh (n:Int) (d:Nat) (hg:Sm BZ n.natAbs/\Sm BZ d/\d≠0):We n d:=by
 obtain ⟨h1,h2,h3⟩:=hg;have l:BZ<=BN:=by unfold BZ BN;omega
 have gp:n.natAbs.gcd d≠0:=Hi (CO _ (yx h3));obtain ⟨k1,k2⟩:=qp n (yx h3);have sd:=h2.div (n.natAbs.gcd d);refine (show Sm BN d/\(Sm BN n.natAbs/\Sm BN d)/\(Sm BZ n.natAbs/\Sm BZ (n.natAbs.gcd d)/\n.natAbs.gcd d≠0/\n.natAbs.gcd d∣n.natAbs)/\(Sm BN d/\Sm BN (n.natAbs.gcd d)/\n.natAbs.gcd d≠0)/\(Sm BN (d/n.natAbs.gcd d)/\d/n.natAbs.gcd d≠0/\(n/((n.natAbs.gcd d:Nat):Int)).natAbs.Coprime (d/n.natAbs.gcd d))/\mkRat (n/((n.natAbs.gcd d:Nat):Int)) (d/n.natAbs.gcd d)=mkRat n d from ?_);refine ⟨h2.le l,⟨h1.le l,h2.le l⟩,⟨h1,zZ h2 h3,gp,EX _ _⟩,⟨h2.le l,(zZ h2 h3).le l,gp⟩,⟨sd.le l,?_,?_⟩,?_⟩
 ·rw [k2];exact (mkRat n d).den_nz
 ·rw [k1,k2];exact (mkRat n d).reduced
 ·rw [k1,k2];exact C1 _
theorem Qi:aoH (cfg []) Wc:=jl Nn bp Tryz.func108 (by kernel_rfl) (by kernel_rfl) rfl (by kernel_rfl) fun args g r hn hc hg hf=>by
 replace hc:J9 args=some (g,r,hn):=hc;unfold J9 at hc;split at hc
 ·obtain ⟨rfl,rfl,rfl⟩:=aN hc;exact ⟨rfl,by kernel_rfl,_,(Qg ..).mpr (Qh _ _ hg)⟩
 ·cases hc
noncomputable def Qj:List az:=Wc::LF3
theorem sn:bd Qj:=⟨Qi,Nn⟩
def fqMake:CF
 | [.k .z n,.k .z d]=>some (some (Sm BZ n.natAbs/\Sm BZ d.natAbs/\d≠0),T2 (.k .q ((n:Rat)/(d:Rat))) (.k .bool true),[])
 | _=>none
def No:az:=⟨79,false,fqMake⟩
def Qk (n d:Int):bk:=⟨fun key_=>match key_ with | 5=>3 | _=>0,nL,nR,nU⟩
def Ca (n d:Int):Prop:=Sm BN d.natAbs/\bif decide (d.sign=0) then ((0:Nat)=(0:Nat)\/(0:Nat)≠(1:Nat)/\(Int.natAbs (0:Int)).Coprime (0:Nat))/\j6 (0:Int) (0:Nat)
 = (↑n:Rat)/(↑d:Rat)/\false=true else Sm BN d.natAbs/\bif decide (d.sign<0) then Sm BN n.natAbs/\(Sm BZ (-n).natAbs/\Sm BZ d.natAbs/\d.natAbs≠(0 :
 Nat))/\mkRat (-n) d.natAbs=(↑n:Rat)/(↑d:Rat)/\true=true else (Sm BZ n.natAbs/\Sm BZ d.natAbs/\d.natAbs≠0)/\mkRat n d.natAbs=(↑n:Rat)/(↑d :
 Rat)/\true=true
theorem Ka (n d:Int):aw Qj [] (Qk n d) Tryz.f79 (T2 (.k .q ((n:Rat)/(d:Rat))) (.k .bool true)) [.k .z n,.k .z d]=Ca n d:=by kernel_rfl
theorem Kb (n d:Int) (hg:Sm BZ n.natAbs/\Sm BZ d.natAbs/\d≠0):Ca n d:=by
 obtain ⟨h1,h2,h3⟩:=hg;have l:BZ<=BN:=by unfold BZ BN;omega
 unfold Ca;exact ⟨h2.le l,aH (fun h=>absurd (G3.1 h) h3) fun _=>⟨h2.le l,aH (fun h=>⟨h1.le l,⟨h1.S8,h2,by omega⟩,Ng n (Hr.1 h),rfl⟩) fun h=>⟨⟨h1,h2,by omega⟩,mk_pos n (fun e=>h (Hr.2 e)),rfl⟩⟩⟩
theorem Kc:aoH (cfg []) No:=jl sn bp Tryz.func79 (by kernel_rfl) (by kernel_rfl) rfl (by kernel_rfl) fun args g r hn hc hg hf=>by
 replace hc:fqMake args=some (g,r,hn):=hc;unfold fqMake at hc;split at hc
 ·obtain ⟨rfl,rfl,rfl⟩:=aN hc;exact ⟨rfl,by kernel_rfl,_,(Ka ..).mpr (Kb _ _ hg)⟩
 ·cases hc
def fqCmp:CF
 | [.k .q x,.k .q y]=>some (some (Sq BQ x/\Sq BQ y),.k (.int .i64) (fS x y:Int),[])
 | _=>none
def Ke:az:=⟨56,false,fqCmp⟩
def Wf (x y:Rat):bk:=⟨fun key_=>match key_ with | 1=>10 | 3=>9 | _=>0,nL,nR,nU⟩
def so (x y:Rat):Prop:=Sq BQ x/\Sq BQ y/\bif !decide (x.num.sign=y.num.sign) then (Sm BN x.num.natAbs/\Sm BN y.num.natAbs)/\dS x.num y.num=fS x y else Sq BQ y/\(Sm BZ x.num.natAbs
 /\ Sm BZ y.den)/\Sq BQ x/\(Sm BZ y.num.natAbs/\Sm BZ x.den)/\(Sm BN (x.num*(↑y.den:Int)).natAbs/\Sm BN (y.num*(↑x.den:Int)).natAbs)/\dS (x.num*(↑y.den :
 Int)) (y.num*(↑x.den:Int))=fS x y
def Kf (x y:Rat):Prop:=Sq BQ x/\bif decide (x.den=(1:Nat)) then Sq BQ y/\bif decide (y.den=(1:Nat)) then (Sm BN x.num.natAbs/\Sm BN y.num.natAbs)/\dS x.num y.num=fS x y else
 so x y else so x y
theorem Ql (x y:Rat):aw Qj [] (Wf x y) Tryz.f56 (.k (.int .i64) (fS x y:Int)) [.k .q x,.k .q y]=Kf x y:=by kernel_rfl
theorem Qm (x y:Rat) (hg:Sq BQ x/\Sq BQ y):Kf x y:=by
 obtain ⟨h1,h2⟩:=hg;have l:BQ<=BN:=by unfold BQ BN;omega
 have l2:BQ<=BZ:=by unfold BQ BZ;omega
 have l3:BQ+BQ<=BN:=by unfold BQ BN;omega
 have hr:so x y:=by
  unfold so;refine ⟨h1,h2,dP (fun h=>⟨⟨h1.num.le l,h2.num.le l⟩,Ic h⟩) fun _=>⟨h2,⟨h1.num.le l2,h2.den.le l2⟩,h1,⟨h2.num.le l2,h1.den.le l2⟩,⟨?_,?_⟩,ot x y⟩⟩
  ·rw [C0];exact (h1.num.mul h2.den).le l3
  ·rw [C0];exact (h2.num.mul h1.den).le l3
 unfold Kf;exact ⟨h1,aH (fun e=>⟨h2,aH (fun e'=>⟨⟨h1.num.le l,h2.num.le l⟩,Om e e'⟩) fun _=>hr⟩) fun _=>hr⟩
theorem z7:aoH (cfg []) Ke:=jl sn bp Tryz.func56 (by kernel_rfl) (by kernel_rfl) rfl (by kernel_rfl) fun args g r hn hc hg hf=>by
 replace hc:fqCmp args=some (g,r,hn):=hc;unfold fqCmp at hc;split at hc
 ·obtain ⟨rfl,rfl,rfl⟩:=aN hc;exact ⟨rfl,by kernel_rfl,_,(Ql ..).mpr (Qm _ _ hg)⟩
 ·cases hc
def Kg:CF
 | [.k .q x,.k .q y]=>some (some (Sq BQ x/\Sq BQ y),.k .q (x+y:Rat),[])
 | _=>none
def xK:az:=⟨58,false,Kg⟩
def Wg (x y:Rat):bk:=⟨fun key_=>match key_ with | 3=>8 | 4=>10 | 5=>10 | 6=>5 | 7=>8 | _=>0,nL,nR,nU⟩
def xL (x y:Rat):Prop:=
 let t1:=bW false y.den;
 let t2:=bW false x.den;
 let t3:=x.den/t2.natAbs.gcd t1.natAbs;
 let t4:=y.den/t2.natAbs.gcd t1.natAbs;
 let t5:=x.num*(↑t4:Int)+y.num*(↑t3:Int);
 let t6:=t2.natAbs.gcd t1.natAbs;
 let t7:=bW false t6;
 let t8:=x.den/t2.natAbs.gcd t1.natAbs*(y.den/t5.natAbs.gcd t7.natAbs);
 Sq BQ x/\Sm BN x.den/\Sq BQ y/\Sm BN y.den/\(Sm BN t2.natAbs/\Sm BN t1.natAbs)/\Sq BQ x/\(Sm BN x.den/\Sm BN t6/\t2.natAbs.gcd t1.natAbs≠0)/\Sq BQ y /\
 (Sm BN y.den/\Sm BN t6/\t2.natAbs.gcd t1.natAbs≠0)/\(Sm BZ x.num.natAbs/\Sm BZ t4)/\(Sm BZ y.num.natAbs/\Sm BZ t3)/\(Sm BZ (x.num*(↑t4:Int)).natAbs /\
 Sm BZ (y.num*(↑t3:Int)).natAbs)/\Sm BN t6/\(Sm BN t5.natAbs/\Sm BN t7.natAbs)/\(Sm BZ t5.natAbs/\Sm BZ (t5.natAbs.gcd t7.natAbs)/\t5.natAbs.gcd t7.natAbs≠(0 :
 Nat)/\t5.natAbs.gcd t7.natAbs∣t5.natAbs)/\Sq BQ y/\(Sm BN y.den/\Sm BN (t5.natAbs.gcd t7.natAbs)/\t5.natAbs.gcd t7.natAbs≠0)/\(Sm BN t3/\Sm BN (y.den /
 t5.natAbs.gcd t7.natAbs))/\(Sm BN t8/\x.den/t2.natAbs.gcd t1.natAbs*(y.den/t5.natAbs.gcd t7.natAbs)≠(0:Nat)/\(t5/(↑(t5.natAbs.gcd t7.natAbs) :
 Int)).natAbs.Coprime t8)/\mkRat (t5/(↑(t5.natAbs.gcd t7.natAbs):Int)) t8=x+y
def Kh (x y:Rat):Prop:=Sq BQ x/\bif decide (x.den=(1:Nat)) then Sq BQ y/\bif decide (y.den=(1:Nat)) then (Sm BZ x.num.natAbs/\Sm BZ y.num.natAbs)/\((0:Nat)=(0:Nat)\/(0:Nat)
 ≠ (1:Nat)/\(x.num+y.num).natAbs.Coprime (0:Nat))/\j6 (x.num+y.num) (0:Nat)=x+y else xL x y else xL x y
theorem Qn (x y:Rat):aw Qj [] (Wg x y) Tryz.f58 (.k .q (x+y:Rat)) [.k .q x,.k .q y]=Kh x y:=by kernel_rfl
theorem Qo (x y:Rat) (hg:Sq BQ x/\Sq BQ y):Kh x y:=by
 obtain ⟨h1,h2⟩:=hg;have hr:xL x y:=P0 h1 h2 rfl rfl rfl rfl rfl;have l:BQ<=BZ:=by unfold BQ BZ;omega
 unfold Kh;refine ⟨h1,aH (fun e=>⟨h2,aH (fun e'=>⟨⟨h1.num.le l,h2.num.le l⟩,.inl rfl,?_⟩) fun _=>hr⟩) fun _=>hr⟩;obtain ⟨k1,k2⟩:=Ia e e';rw [fN, <- k1];have:=C1 (x+y);rw [k2,Mk] at this;exact this
theorem pI:aoH (cfg []) xK:=jl sn bp Tryz.func58 (by kernel_rfl) (by kernel_rfl) rfl (by kernel_rfl) fun args g r hn hc hg hf=>by
 replace hc:Kg args=some (g,r,hn):=hc;unfold Kg at hc;split at hc
 ·obtain ⟨rfl,rfl,rfl⟩:=aN hc;exact ⟨rfl,by kernel_rfl,_,(Qn ..).mpr (Qo _ _ hg)⟩
 ·cases hc
def Ki:CF
 | [.k .q x,.k .q y]=>some (some (Sq BQ x/\Sq BQ y),.k .q (x*y:Rat),[])
 | _=>none
def xM:az:=⟨29,false,Ki⟩
def Wh (x y:Rat):bk:=⟨fun key_=>match key_ with | 3=>7 | 4=>7 | 5=>17 | _=>0,nL,nR,nU⟩
def xN (x y:Rat):Prop:=
 let t1:=y.den/x.num.natAbs.gcd (bW false y.den).natAbs;
 let t2:=bW false x.den;
 let t3:=x.den/y.num.natAbs.gcd t2.natAbs*t1;
 let t4:=y.num.natAbs.gcd t2.natAbs;
 let t5:=x.num.natAbs.gcd (bW false y.den).natAbs;
 Sq BQ y/\Sm BN y.den/\(Sm BN x.num.natAbs/\Sm BN (bW false y.den).natAbs)/\Sq BQ x/\Sm BN x.den/\(Sm BN y.num.natAbs/\Sm BN t2.natAbs)/\(Sm BZ x.num.natAbs/\Sm
 BZ t5/\x.num.natAbs.gcd (bW false y.den).natAbs≠(0:Nat)/\x.num.natAbs.gcd (bW false y.den).natAbs∣x.num.natAbs)/\(Sm BZ y.num.natAbs/\Sm BZ t4 /\
 y.num.natAbs.gcd t2.natAbs≠(0:Nat)/\y.num.natAbs.gcd t2.natAbs∣y.num.natAbs)/\(Sm BZ (x.num/(↑t5:Int)).natAbs/\Sm BZ (y.num/(↑t4:Int)).natAbs)/\Sq BQ x
 /\ (Sm BN x.den/\Sm BN t4/\y.num.natAbs.gcd t2.natAbs≠0)/\Sq BQ y/\(Sm BN y.den/\Sm BN t5/\x.num.natAbs.gcd (bW false y.den).natAbs≠0)/\(Sm BN
 (x.den/y.num.natAbs.gcd t2.natAbs)/\Sm BN t1)/\(Sm BN t3/\x.den/y.num.natAbs.gcd t2.natAbs*t1≠(0:Nat)/\(x.num/(↑t5:Int)*(y.num/(↑t4 :
 Int))).natAbs.Coprime t3)/\mkRat (x.num/(↑t5:Int)*(y.num/(↑t4:Int))) t3=x*y
def Kj (x y:Rat):Prop:=Sq BQ x/\bif decide (x.den=(1:Nat)) then Sq BQ y/\bif decide (y.den=(1:Nat)) then (Sm BZ x.num.natAbs/\Sm BZ y.num.natAbs)/\((0:Nat)=(0:Nat)\/(0:Nat)
 ≠ (1:Nat)/\(x.num*y.num).natAbs.Coprime (0:Nat))/\j6 (x.num*y.num) (0:Nat)=x*y else xN x y else xN x y
theorem Qp (x y:Rat):aw Qj [] (Wh x y) Tryz.f29 (.k .q (x*y:Rat)) [.k .q x,.k .q y]=Kj x y:=by kernel_rfl
theorem Qq (x y:Rat) (hg:Sq BQ x/\Sq BQ y):Kj x y:=by
 obtain ⟨h1,h2⟩:=hg;have hr:xN x y:=P2 h1 h2 rfl rfl;have l:BQ<=BZ:=by unfold BQ BZ;omega
 unfold Kj;refine ⟨h1,aH (fun e=>⟨h2,aH (fun e'=>⟨⟨h1.num.le l,h2.num.le l⟩,.inl rfl,?_⟩) fun _=>hr⟩) fun _=>hr⟩;obtain ⟨k1,k2⟩:=Ib e e';rw [fN, <- k1];have:=C1 (x*y);rw [k2,Mk] at this;exact this
theorem pJ:aoH (cfg []) xM:=jl sn bp Tryz.func29 (by kernel_rfl) (by kernel_rfl) rfl (by kernel_rfl) fun args g r hn hc hg hf=>by
 replace hc:Ki args=some (g,r,hn):=hc;unfold Ki at hc;split at hc
 ·obtain ⟨rfl,rfl,rfl⟩:=aN hc;exact ⟨rfl,by kernel_rfl,_,(Qp ..).mpr (Qq _ _ hg)⟩
 ·cases hc
noncomputable def LF5:List az:=xK::xM::Qj
theorem Np:bd LF5:=⟨pI,pJ,sn⟩
def Kk:CF
 | [.k .q x,.k .q y]=>some (some (Sq BQ x/\Sq BQ y),.k .q (x-y:Rat),[])
 | _=>none
def Cb:az:=⟨28,false,Kk⟩
def Wi (x y:Rat):bk:=⟨fun key_=>match key_ with | 1=>3 | _=>0,nL,nR,nU⟩
def Wj (x y:Rat):Prop:=Sq BQ y/\(Sq BQ x/\Sq BQ (-y))/\x + -y=x-y
theorem Qr (x y:Rat):aw LF5 [] (Wi x y) Tryz.f28 (.k .q (x-y:Rat)) [.k .q x,.k .q y]=Wj x y:=by kernel_rfl
theorem Qs (x y:Rat) (hg:Sq BQ x/\Sq BQ y):Wj x y:=by exact ⟨hg.2,⟨hg.1,hg.2.neg⟩,(Rat.sub_eq_add_neg x y).symm⟩
theorem tA:aoH (cfg []) Cb:=jl Np bp Tryz.func28 (by kernel_rfl) (by kernel_rfl) rfl (by kernel_rfl) fun args g r hn hc hg hf=>by
 replace hc:Kk args=some (g,r,hn):=hc;unfold Kk at hc;split at hc
 ·obtain ⟨rfl,rfl,rfl⟩:=aN hc;exact ⟨rfl,by kernel_rfl,_,(Qr ..).mpr (Qs _ _ hg)⟩
 ·cases hc
def Kl:CF
 | [.k .q x,.k .q y]=>some (some (Sq BQ x/\Sq BQ y),T2 (.k .q (x/y:Rat)) (.k .bool (!decide ((y:Rat)=0))),[])
 | _=>none
def Wk:az:=⟨27,false,Kl⟩
def Wl (x y:Rat):bk:=⟨fun key_=>match key_ with | 3=>11 | _=>0,nL,nR,nU⟩
def Km (x y:Rat):Prop:=
 let t1:=bW (decide (y.num.sign<0)) y.den;
 Sq BQ y/\bif decide (y.num.sign=0) then ((0:Nat)=(0:Nat)\/(0:Nat)≠(1:Nat)/\(Int.natAbs (0:Int)).Coprime (0:Nat))/\j6 (0:Int) (0:Nat) =
 x/y/\false = !decide (y=0) else Sq BQ y/\Sq BQ y/\Sm BN y.den/\(Sm BN y.num.natAbs/\y.num.natAbs≠(0:Nat)/\t1.natAbs.Coprime y.num.natAbs)/\(Sq BQ x
 /\ Sq BQ (mkRat t1 y.num.natAbs))/\x*mkRat t1 y.num.natAbs=x/y/\true = !decide (y=0)
theorem Qv (x y:Rat):aw LF5 [] (Wl x y) Tryz.f27 (T2 (.k .q (x/y:Rat)) (.k .bool (!decide ((y:Rat)=0)))) [.k .q x,.k .q y]=Km x y:=by kernel_rfl
theorem Qw (x y:Rat) (hg:Sq BQ x/\Sq BQ y):Km x y:=by
 obtain ⟨h1,h2⟩:=hg;have l:BQ<=BN:=by unfold BQ BN;omega
 unfold Km;intro t1;refine ⟨h2,aH (fun h=>⟨.inl rfl,?_,?_⟩) fun h=>?_⟩
 ·have e:y=0:=Hf.1 (G3.1 h);rw [e,Cg,Rat.inv_zero,LX];exact fN 0
 ·have e:y=0:=Hf.1 (G3.1 h);rw [xX e];rfl
 ·have e:y≠0:=fun e=>h (by rw [e];rfl);obtain ⟨k1,k2⟩:=ZM e;have hn:y.num≠0:=fun e'=>e (Hf.1 e');refine ⟨h2,h2,h2.den.le l,⟨h2.num.le l,by omega,k2⟩,⟨h1,?_⟩,?_,?_⟩
  ·rw [show mkRat t1 y.num.natAbs=y⁻¹ from k1];exact h2.inv e
  ·rw [show mkRat t1 y.num.natAbs=y⁻¹ from k1, <- Cg]
  ·rw [tS e];rfl
theorem Qx:aoH (cfg []) Wk:=jl Np bp Tryz.func27 (by kernel_rfl) (by kernel_rfl) rfl (by kernel_rfl) fun args g r hn hc hg hf=>by
 replace hc:Kl args=some (g,r,hn):=hc;unfold Kl at hc;split at hc
 ·obtain ⟨rfl,rfl,rfl⟩:=aN hc;exact ⟨rfl,by kernel_rfl,_,(Qv ..).mpr (Qw _ _ hg)⟩
 ·cases hc
theorem Wm {s:Bool} {g m:Nat} (hg:0<g) (h:g∣m):bW s (m/g)=bW s m/(g:Int):=by
 obtain ⟨k,rfl⟩:=h;rw [Dc _ hg];have fc:(g:Int)≠0:=by omega
 cases s
 ·show ((k:Nat):Int)=((g*k:Nat):Int)/(g:Int);rw [Cd,Gz _ fc]
 ·show -((k:Nat):Int) = -((g*k:Nat):Int)/(g:Int);rw [Cd, <- Int.mul_neg,Gz _ fc]
theorem z8 (n:Int) {d:Int} (h:d≠0):mkRat (bW (!(decide (n<0) == decide (d<0))) n.natAbs) d.natAbs=(n:Rat)/(d:Rat):=by
 by_cases hd:d<0
 ·rw [<-Ng n hd];congr 1;unfold bW;by_cases hn:n<0 <;> simp [hn,hd] <;> omega
 ·rw [<-mk_pos n hd];congr 1;unfold bW;by_cases hn:n<0 <;> simp [hn,hd] <;> omega
theorem tB (n:Int) (d:Nat):(n:Rat)/(((d:Nat):Int):Rat)=mkRat n d:=by rw [<-N7,QL]
theorem over_self (q:Rat):((q.num:Int):Rat)/(((q.den:Nat):Int):Rat)=q:=by rw [tB,C1]
theorem mQ {a b:Nat}:0<=bG a b↔b<=a:=by unfold bG;(repeat' split) <;> omega
noncomputable def ZP:List az:=VG::VH::VI::Jx::aa4::VK::[]
theorem Cc:bd ZP:=⟨Py,Pz,PA,zU,VJ,PB,trivial⟩
def frI:CF
 | [.k .bool b,.k .rn n]=>some (none,.k .ri (bW b n),[])
 | _=>none
def crI:az:=⟨86,false,frI⟩
def adh (b:Bool) (n:Nat):bk:=⟨nU,nL,nR,nU⟩
def vrI (b:Bool) (n:Nat):Prop:=bif b then (decide ((0:Int)<(↑(nl n):Int))=true->n≠0)/\bW (decide ((0:Int)<(↑(nl n):Int))) n=bW b n else (false=true->n≠0) /\
 bW false n=bW b n
theorem ZQ (b:Bool) (n:Nat):aw ZP [] (adh b n) Tryz.f86 (.k .ri (bW b n)) [.k .bool b,.k .rn n]=vrI b n:=by kernel_rfl
theorem ZR (b:Bool) (n:Nat) (hf:cJ [.k .bool b,.k .rn n]):vrI b n:=by
 unfold vrI;refine nC (fun h=>?_) fun h=>?_
 ·subst h;refine ⟨fun h' e=>?_,?_⟩
  ·have:=(pC n).1 (Dd h');omega
  ·rcases nP n with e | e
   ·subst e;cases decide ((0:Int)<((nl 0:Nat):Int)) <;> rfl
   ·rw [xX (show (0:Int)<((nl n:Nat):Int) from (pC n).2 e)]
 ·subst h;exact ⟨fun h=>(by cases h),rfl⟩
theorem Nq:aoH (cfg []) crI:=cf Cc bp Tryz.func86 (by kernel_rfl) fun args g r hn hc hg hf=>by
 replace hc:frI args=some (g,r,hn):=hc;unfold frI at hc;split at hc
 ·obtain ⟨rfl,rfl,rfl⟩:=aN hc;cases aY (ZQ _ _) (ZR _ _ hf);exact ⟨rfl,by kernel_rfl,_,by assumption⟩
 ·cases hc
def frGcd:CF
 | [.k .rn a,.k .rn b]=>some (some (Sm BN a/\Sm BN b),.k .rn (Nat.gcd a b),[])
 | _=>none
def Wn:az:=⟨111,false,frGcd⟩
def Wo (a b:Nat):bk:=⟨nU,fun key_=>match key_ with
 | 1=>some (⟨Nat×Nat,fun p=>[(0,.k .rn p.1),(1,.k .rn p.2)],fun _=>[],fun _ p=>Sm BN p.1/\Sm BN p.2/\Nat.gcd p.1 p.2=Nat.gcd a b,fun p=>p.2⟩) | _=>none,nR,nU⟩
def Kn (a b:Nat):Prop:=∃(x0:Nat×Nat),(a=x0.fst/\b=x0.snd)/\(Sm BN x0.fst/\Sm BN x0.snd/\x0.fst.gcd x0.snd=a.gcd b)/\∀(x:Nat×Nat),Sm BN x.fst/\Sm BN x.snd/\x.fst.gcd
 x.snd=a.gcd b->bif decide ((0:Int)<(↑(nl x.snd):Int)) then (Sm BN x.fst/\Sm BN x.snd/\x.snd≠0)/\∃(x':Nat×Nat),(x.snd=x'.fst/\x.fst%x.snd
 = x'.snd)/\(Sm BN x'.fst/\Sm BN x'.snd/\x'.fst.gcd x'.snd=a.gcd b)/\x'.snd<x.snd else x.fst=a.gcd b
theorem Qy (a b:Nat):aw ZP [] (Wo a b) Tryz.f111 (.k .rn (Nat.gcd a b)) [.k .rn a,.k .rn b]=Kn a b:=by kernel_rfl
theorem Qz (a b:Nat) (hg:Sm BN a/\Sm BN b):Kn a b:=by
 unfold Kn;refine ⟨(a,b),⟨rfl,rfl⟩,⟨hg.1,hg.2,rfl⟩,fun ⟨p,q⟩ ⟨h1,h2,h3⟩=>?_⟩;dsimp only at h1 h2 h3 ⊢;refine aH (fun h=>?_) fun h=>?_
 ·have hq:=(pC q).1 h;refine ⟨⟨h1,h2,by omega⟩,(q,p%q),⟨rfl,rfl⟩,⟨h2,h1.mod _,?_⟩,vu _ hq⟩;rw [<-h3,Hk p q,N9 q p,Hk]
 ·have:q=0:=by
   rcases nP q with e | e
   ·exact e
   ·exact absurd ((pC q).2 e) h
  rw [<-h3,this,NN]
theorem QA:aoH (cfg []) Wn:=cf Cc bp Tryz.func111 (by kernel_rfl) fun args g r hn hc hg hf=>by
 replace hc:frGcd args=some (g,r,hn):=hc;unfold frGcd at hc;split at hc
 ·obtain ⟨rfl,rfl,rfl⟩:=aN hc;cases aY (Qy _ _) (Qz _ _ hg);exact ⟨rfl,by kernel_rfl,_,by assumption⟩
 ·cases hc
noncomputable def FQ:List az:=crI::Wn::ZP
theorem nH:bd FQ:=⟨Nq,QA,Cc⟩
def frIntOf:CF
 | [.k (.int .i64) n]=>some (some (ax n),.k .ri n,[])
 | _=>none
def FR:az:=⟨52,false,frIntOf⟩
def Ko (n:Int):bk:=⟨nU,nL,nR,nU⟩
def xO (n:Int):Prop:=bif decide (n<0) then ((0:Int)<=IntKind.u64.wrap ((0:Int)-IntKind.u64.wrap n)/\IntKind.u64.wrap ((0:Int)-IntKind.u64.wrap n)<(18446744073709551616
 : Int))/\bW true (IntKind.u64.wrap ((0:Int)-IntKind.u64.wrap n)).toNat=n else ((0:Int)<=IntKind.u64.wrap n/\IntKind.u64.wrap n<(18446744073709551616:Int))
 /\ bW false (IntKind.u64.wrap n).toNat=n
theorem FT (n:Int):aw FQ [] (Ko n) Tryz.f52 (.k .ri n) [.k (.int .i64) n]=xO n:=by kernel_rfl
theorem FU (n:Int) (hg:ax n):xO n:=by
 unfold xO;have h1 : -9223372036854775808<=n:=hg.1;have h2:n<=9223372036854775807:=hg.2;refine aH (fun h=>?_) fun h=>?_
 ·have e:IntKind.u64.wrap ((0:Int)-IntKind.u64.wrap n) = -n:=by simp [IntKind.wrap,IntKind.signed,IntKind.bits];omega
  rw [e];refine ⟨⟨by omega,by omega⟩,?_⟩;show -((Int.toNat (-n):Nat):Int)=n;omega
 ·have e:IntKind.u64.wrap n=n:=by simp [IntKind.wrap,IntKind.signed,IntKind.bits];omega
  rw [e];refine ⟨⟨by omega,by omega⟩,?_⟩;show ((Int.toNat n:Nat):Int)=n;omega
theorem FW:aoH (cfg []) FR:=cf nH bp Tryz.func52 (by kernel_rfl) fun args g r hn hc hg hf=>by
 replace hc:frIntOf args=some (g,r,hn):=hc;unfold frIntOf at hc;split at hc
 ·obtain ⟨rfl,rfl,rfl⟩:=aN hc;cases aY (FT _) (FU _ hg);exact ⟨rfl,by kernel_rfl,_,by assumption⟩
 ·cases hc
def frIntAdd:CF
 | [.k .ri x,.k .ri y]=>some (some (Sm BN x.natAbs/\Sm BN y.natAbs),.k .ri (x+y:Int),[])
 | _=>none
def Ab:az:=⟨83,false,frIntAdd⟩
def FY (x y:Int):bk:=⟨fun key_=>match key_ with | 2=>7 | 4=>7 | 5=>7 | _=>0,nL,nR,nU⟩
def tE (x y:Int):Prop:=bif decide (x<0) == decide (y<0) then (Sm BN x.natAbs/\Sm BN y.natAbs)/\bW (decide (x<0)) (x.natAbs+y.natAbs)=x+y else (Sm BN
 x.natAbs/\Sm BN y.natAbs)/\bif decide ((0:Int)<=bG x.natAbs y.natAbs) then (Sm BN x.natAbs/\y.natAbs<=x.natAbs)/\bW (decide (x<0)) (x.natAbs -
 y.natAbs)=x+y else (Sm BN y.natAbs/\x.natAbs<=y.natAbs)/\bW (decide (y<0)) (y.natAbs-x.natAbs)=x+y
theorem Ch (x y:Int):aw FQ [] (FY x y) Tryz.f83 (.k .ri (x+y:Int)) [.k .ri x,.k .ri y]=tE x y:=by kernel_rfl
theorem Ci (x y:Int) (hg:Sm BN x.natAbs/\Sm BN y.natAbs):tE x y:=by
 unfold tE;obtain ⟨h1,h2⟩:=hg;refine nC (fun h=>⟨⟨h1,h2⟩,?_⟩) fun h=>⟨⟨h1,h2⟩,aH (fun h'=>⟨⟨h1,mQ.1 h'⟩,?_⟩) fun h'=>?_⟩
 ·unfold bW;by_cases hx:x<0 <;> by_cases hy:y<0 <;> simp [hx,hy] at h ⊢ <;> omega
 ·have h':=mQ.1 h';unfold bW;by_cases hx:x<0 <;> by_cases hy:y<0 <;> simp [hx,hy] at h ⊢ <;> omega
 ·have h':¬y.natAbs<=x.natAbs:=fun e=>h' (mQ.2 e);refine ⟨⟨h2,by omega⟩,?_⟩;unfold bW;by_cases hx:x<0 <;> by_cases hy:y<0 <;> simp [hx,hy] at h ⊢ <;> omega
theorem Cj:aoH (cfg []) Ab:=cf nH bp Tryz.func83 (by kernel_rfl) fun args g r hn hc hg hf=>by
 replace hc:frIntAdd args=some (g,r,hn):=hc;unfold frIntAdd at hc;split at hc
 ·obtain ⟨rfl,rfl,rfl⟩:=aN hc;cases aY (Ch _ _) (Ci _ _ hg);exact ⟨rfl,by kernel_rfl,_,by assumption⟩
 ·cases hc
def tF:CF
 | [.k .ri x,.k .ri y]=>some (some (Sm BN x.natAbs/\Sm BN y.natAbs),.k .ri (x*y:Int),[])
 | _=>none
def Ac:az:=⟨84,false,tF⟩
def FZ (x y:Int):bk:=⟨fun key_=>match key_ with | 1=>10 | _=>0,nL,nR,nU⟩
def Ad (x y:Int):Prop:=(Sm BN x.natAbs/\Sm BN y.natAbs)/\bW (!decide (x<0) == decide (y<0)) (x.natAbs*y.natAbs)=x*y
theorem Ck (x y:Int):aw FQ [] (FZ x y) Tryz.f84 (.k .ri (x*y:Int)) [.k .ri x,.k .ri y]=Ad x y:=by kernel_rfl
theorem Cl (x y:Int) (hg:Sm BN x.natAbs/\Sm BN y.natAbs):Ad x y:=by exact ⟨hg,vL rfl rfl⟩
theorem Cm:aoH (cfg []) Ac:=cf nH bp Tryz.func84 (by kernel_rfl) fun args g r hn hc hg hf=>by
 replace hc:tF args=some (g,r,hn):=hc;unfold tF at hc;split at hc
 ·obtain ⟨rfl,rfl,rfl⟩:=aN hc;cases aY (Ck _ _) (Cl _ _ hg);exact ⟨rfl,by kernel_rfl,_,by assumption⟩
 ·cases hc
def frDen:CF
 | [.k .rq x]=>some (none,.k .ri ((x.den:Nat):Int),[])
 | _=>none
def Wp:az:=⟨85,false,frDen⟩
def Wq (x:Rat):bk:=⟨nU,nL,nR,nU⟩
def Wr (x:Rat):Prop:=bW false x.den=(↑x.den:Int)
theorem QB (x:Rat):aw FQ [] (Wq x) Tryz.f85 (.k .ri ((x.den:Nat):Int)) [.k .rq x]=Wr x:=by kernel_rfl
theorem QC (x:Rat) (hf:cJ [.k .rq x]):Wr x:=by rfl
theorem QD:aoH (cfg []) Wp:=cf nH bp Tryz.func85 (by kernel_rfl) fun args g r hn hc hg hf=>by
 replace hc:frDen args=some (g,r,hn):=hc;unfold frDen at hc;split at hc
 ·obtain ⟨rfl,rfl,rfl⟩:=aN hc;cases aY (QB _) (QC _ hf);exact ⟨rfl,by kernel_rfl,_,by assumption⟩
 ·cases hc
noncomputable def LR3:List az:=FR::Ab::Ac::Wp::FQ
theorem Nr:bd LR3:=⟨FW,Cj,Cm,QD,nH⟩
noncomputable def Ws:List az:=LR3
theorem vp:bd Ws:=Nr
def Cu:CF
 | [.k .ri n,.k .ri d]=>some (some (Sm BN n.natAbs/\Sm BN d.natAbs/\d≠0),.k .rq ((n:Rat)/(d:Rat)),[])
 | _=>none
def Ns:az:=⟨82,false,Cu⟩
def QE (n d:Int):bk:=⟨nU,nL,nR,nU⟩
def Cv (n d:Int):Prop:=
 let t1:=bW (!decide (n<0) == decide (d<0)) (n.natAbs/n.natAbs.gcd d.natAbs);
 (Sm BN n.natAbs/\Sm BN d.natAbs)/\(Sm BN n.natAbs/\Sm BN (n.natAbs.gcd d.natAbs)/\n.natAbs.gcd d.natAbs≠0)/\(Sm BN d.natAbs/\Sm BN (n.natAbs.gcd d.natAbs)
 /\ n.natAbs.gcd d.natAbs≠0)/\(d.natAbs/n.natAbs.gcd d.natAbs≠(0:Nat)/\t1.natAbs.Coprime (d.natAbs/n.natAbs.gcd d.natAbs))/\mkRat t1 (d.natAbs /
 n.natAbs.gcd d.natAbs)=(↑n:Rat)/(↑d:Rat)
theorem Kq (n d:Int):aw Ws [] (QE n d) Tryz.f82 (.k .rq ((n:Rat)/(d:Rat))) [.k .ri n,.k .ri d]=Cv n d:=by kernel_rfl
theorem Kr (n d:Int) (hg:Sm BN n.natAbs/\Sm BN d.natAbs/\d≠0):Cv n d:=by
 obtain ⟨h1,h2,h3⟩:=hg;unfold Cv;intro t1;have hd:0<d.natAbs:=by omega
 have gp:0<n.natAbs.gcd d.natAbs:=CO _ hd;have sg:=zZ (a:=n.natAbs) h2 (by omega);have e:=z8 n h3;have e1:t1=bW (!(decide (n<0) == decide (d<0))) n.natAbs/((n.natAbs.gcd d.natAbs:Nat):Int):=Wm gp (EX _ _);obtain ⟨k1,k2⟩:=qp (bW (!(decide (n<0) == decide (d<0))) n.natAbs) hd;rw [rE] at k1 k2;rw [e] at k1 k2;rw [e1,k1,k2];exact ⟨⟨h1,h2⟩,⟨h1,sg,by omega⟩,⟨h2,sg,by omega⟩,⟨Rat.den_nz _,Rat.reduced _⟩,C1 _⟩
theorem Ks:aoH (cfg []) Ns:=cf vp bp Tryz.func82 (by kernel_rfl) fun args g r hn hc hg hf=>by
 replace hc:Cu args=some (g,r,hn):=hc;unfold Cu at hc;split at hc
 ·obtain ⟨rfl,rfl,rfl⟩:=aN hc;cases aY (Kq _ _) (Kr _ _ hg);exact ⟨rfl,by kernel_rfl,_,by assumption⟩
 ·cases hc
def Wt:CF
 | [.k (.int .i64) n]=>some (some (ax n),.k .rq (n:Rat),[])
 | _=>none
def xQ:az:=⟨21,false,Wt⟩
def ZS (n:Int):bk:=⟨nU,nL,nR,nU⟩
def aa6 (n:Int):Prop:=((-9223372036854775808:Int)<=n/\n<=(9223372036854775807:Int))/\((0:Int)<=(1:Int)/\(1:Int)<(18446744073709551616:Int))/\(Int.toNat (1:Int)≠(0 :
 Nat)/\n.natAbs.Coprime (Int.toNat (1:Int)))/\mkRat n (Int.toNat (1:Int))=(↑n:Rat)
theorem Wu (n:Int):aw Ws [] (ZS n) Tryz.f21 (.k .rq (n:Rat)) [.k (.int .i64) n]=aa6 n:=by kernel_rfl
theorem Wv (n:Int) (hg:ax n):aa6 n:=by exact ⟨hg,by omega,⟨by decide,by simp⟩,Mk n⟩
theorem mV:aoH (cfg []) xQ:=cf vp bp Tryz.func21 (by kernel_rfl) fun args g r hn hc hg hf=>by
 replace hc:Wt args=some (g,r,hn):=hc;unfold Wt at hc;split at hc
 ·obtain ⟨rfl,rfl,rfl⟩:=aN hc;cases aY (Wu _) (Wv _ hg);exact ⟨rfl,by kernel_rfl,_,by assumption⟩
 ·cases hc
noncomputable def Ww:List az:=Ns::Ws
theorem vq:bd Ww:=⟨Ks,vp⟩
def fdOver:CF
 | [.k (.int .i64) n,.k (.int .i64) d]=>some (some (ax n/\ax d/\d≠0),.k .rq ((n:Rat)/(d:Rat)),[])
 | _=>none
def Nt:az:=⟨73,false,fdOver⟩
def QF (n d:Int):bk:=⟨nU,nL,nR,nU⟩
def Nu (n d:Int):Prop:=((-9223372036854775808:Int)<=n/\n<=(9223372036854775807:Int))/\((-9223372036854775808:Int)<=d/\d<=(9223372036854775807:Int))/\(Sm BN n.natAbs/\Sm BN
 d.natAbs/\d≠0)/\(↑n:Rat)/(↑d:Rat)=(↑n:Rat)/(↑d:Rat)
theorem Kt (n d:Int):aw Ww [] (QF n d) Tryz.f73 (.k .rq ((n:Rat)/(d:Rat))) [.k (.int .i64) n,.k (.int .i64) d]=Nu n d:=by kernel_rfl
theorem Ku (n d:Int) (hg:ax n/\ax d/\d≠0):Nu n d:=by obtain ⟨⟨a1,a2⟩,⟨b1,b2⟩,h3⟩:=hg;exact ⟨⟨a1,a2⟩,⟨b1,b2⟩,⟨(Sm.lit (by omega)).le (by unfold BN;omega),(Sm.lit (by omega)).le (by unfold BN;omega),h3⟩,rfl⟩
theorem xR:aoH (cfg []) Nt:=cf vq bp Tryz.func73 (by kernel_rfl) fun args g r hn hc hg hf=>by
 replace hc:fdOver args=some (g,r,hn):=hc;unfold fdOver at hc;split at hc
 ·obtain ⟨rfl,rfl,rfl⟩:=aN hc;cases aY (Kt _ _) (Ku _ _ hg);exact ⟨rfl,by kernel_rfl,_,by assumption⟩
 ·cases hc
def fdAdd:CF
 | [.k .rq x,.k .rq y]=>some (some (Sq BQ x/\Sq BQ y),.k .rq (x+y:Rat),[])
 | _=>none
def Kv:az:=⟨50,false,fdAdd⟩
def Wx (x y:Rat):bk:=⟨fun key_=>match key_ with | 1=>15 | _=>0,nL,nR,nU⟩
def Wy (x y:Rat):Prop:=(Sm BN x.num.natAbs/\Sm BN (↑y.den:Int).natAbs)/\(Sm BN y.num.natAbs/\Sm BN (↑x.den:Int).natAbs)/\(Sm BN (x.num*(↑y.den:Int)).natAbs/\Sm BN (y.num*(↑x.den
 : Int)).natAbs)/\(Sm BN x.den/\Sm BN y.den)/\(Sm BN (x.num*(↑y.den:Int)+y.num*(↑x.den:Int)).natAbs/\Sm BN (bW false (x.den*y.den)).natAbs/\bW false
 (x.den*y.den)≠0)/\(↑(x.num*(↑y.den:Int)+y.num*(↑x.den:Int)):Rat)/(↑(bW false (x.den*y.den)):Rat)=x+y
theorem QG (x y:Rat):aw Ww [] (Wx x y) Tryz.f50 (.k .rq (x+y:Rat)) [.k .rq x,.k .rq y]=Wy x y:=by kernel_rfl
theorem QH (x y:Rat) (hg:Sq BQ x/\Sq BQ y):Wy x y:=by
 obtain ⟨h1,h2⟩:=hg;have l:BQ<=BN:=by unfold BQ BN;omega
 have l2:BQ+BQ+1<=BN:=by unfold BQ BN;omega
 have p1:Sm (BQ+BQ) (x.num*((y.den:Nat):Int)).natAbs:=by rw [C0];exact h1.num.mul h2.den
 have p2:Sm (BQ+BQ) (y.num*((x.den:Nat):Int)).natAbs:=by rw [C0];exact h2.num.mul h1.den
 refine ⟨⟨h1.num.le l,h2.den.le l⟩,⟨h2.num.le l,h1.den.le l⟩,⟨p1.le (by omega),p2.le (by omega)⟩,⟨h1.den.le l,h2.den.le l⟩,⟨(p1.S7 p2).le (by omega),(h1.den.mul h2.den).le (by omega),?_⟩,?_⟩
 ·have:=FX x.den_pos y.den_pos;show ((x.den*y.den:Nat):Int)≠0;omega
 ·exact (tB _ (x.den*y.den)).trans (Q4 x y).symm
theorem Ai:aoH (cfg []) Kv:=cf vq bp Tryz.func50 (by kernel_rfl) fun args g r hn hc hg hf=>by
 replace hc:fdAdd args=some (g,r,hn):=hc;unfold fdAdd at hc;split at hc
 ·obtain ⟨rfl,rfl,rfl⟩:=aN hc;cases aY (QG _ _) (QH _ _ hg);exact ⟨rfl,by kernel_rfl,_,by assumption⟩
 ·cases hc
def Kw:CF
 | [.k .rq x,.k .rq y]=>some (some (Sq BQ x/\Sq BQ y),.k .rq (x*y:Rat),[])
 | _=>none
def Kx:az:=⟨51,false,Kw⟩
def Wz (x y:Rat):bk:=⟨fun key_=>match key_ with | 1=>9 | _=>0,nL,nR,nU⟩
def WA (x y:Rat):Prop:=(Sm BN x.num.natAbs/\Sm BN y.num.natAbs)/\(Sm BN x.den/\Sm BN y.den)/\(Sm BN (x.num*y.num).natAbs/\Sm BN (bW false (x.den*y.den)).natAbs/\bW false (x.den *
 y.den)≠0)/\(↑(x.num*y.num):Rat)/(↑(bW false (x.den*y.den)):Rat)=x*y
theorem QI (x y:Rat):aw Ww [] (Wz x y) Tryz.f51 (.k .rq (x*y:Rat)) [.k .rq x,.k .rq y]=WA x y:=by kernel_rfl
theorem QJ (x y:Rat) (hg:Sq BQ x/\Sq BQ y):WA x y:=by
 obtain ⟨h1,h2⟩:=hg;have l:BQ<=BN:=by unfold BQ BN;omega
 have l2:BQ+BQ<=BN:=by unfold BQ BN;omega
 refine ⟨⟨h1.num.le l,h2.num.le l⟩,⟨h1.den.le l,h2.den.le l⟩,⟨(by rw [C0];exact (h1.num.mul h2.num).le l2),(h1.den.mul h2.den).le l2,?_⟩,?_⟩
 ·have:=FX x.den_pos y.den_pos;show ((x.den*y.den:Nat):Int)≠0;omega
 ·exact (tB _ (x.den*y.den)).trans (Rb x y).symm
theorem Aj:aoH (cfg []) Kx:=cf vq bp Tryz.func51 (by kernel_rfl) fun args g r hn hc hg hf=>by
 replace hc:Kw args=some (g,r,hn):=hc;unfold Kw at hc;split at hc
 ·obtain ⟨rfl,rfl,rfl⟩:=aN hc;cases aY (QI _ _) (QJ _ _ hg);exact ⟨rfl,by kernel_rfl,_,by assumption⟩
 ·cases hc
end Go.Proofs.YtdgmgfaphpkocaaGreatDoor.AM
namespace Go.Proofs.YtdgmgfaphpkocaaGreatDoor
open Go.RowKit
theorem F4 (n:Nat) (hn:bl n<=549755813888) (w:World) :
  Calls Tryz.prog 134 #[.agg #[.int .u64 (lo (n):Nat),.string (hi (n))]] w (apN (bJ n) w):=by
 have HB:Hid (∀W,Calls Tryz.prog 145 #[.agg #[.int .u64 (lo (n):Nat),.string (hi (n))]] W (apN (jQ (gR n)) W)):=aad (fun W=>(xn n hn W).mono fun _ _ ⟨v,h1,h2,h3⟩=>⟨v,h1,jQ.Ug (by rw [b9];unfold nb;omega) h2,h3⟩)
 have HF:Hid (∀W u,jQ (gR n) u W->Calls Tryz.prog 150 #[u] W (apN (bJ n) W)):=aad (fun W u h=>by have h:=Bt (gR n) u W (by rw [b9];unfold nb;omega) h;rw [wX] at h;exact h)
 clear hn
 generalize lo n=la at *
 generalize hi n=sa at *
 go_enter Tryz.func134,Tryz.ntmps134
 go_wp2_with fail
 have hx:Ext w (w.alloc (.cells #[.int .u64 ((la:Nat):Int),.string sa] 41)):=(Ext.refl w).alloc _
 have HX:=aad hx
 clear hx
 refine (HB.out _).mono ?_
 rintro e w1 ⟨v1,rfl,fj,bU⟩
 have I0:=aad fj
 have im:=aad bU
 clear fj bU
 go_wp2_with fail
 refine (HF.out _ _ I0.out).mono ?_
 rintro e w3 ⟨v3,rfl,WD,eR⟩
 have HV3:=aad WD
 clear WD
 go_wp2
 go_ret
 exact ⟨_,rfl,HV3.out,(HX.out.trans im.out).trans eR⟩
end Go.Proofs.YtdgmgfaphpkocaaGreatDoor
namespace Go.Proofs.YtdgmgfaphpkocaaGreatDoor.AM
open Go.RowKit
def Al:az:=⟨134,false,on1 .nat N1 fun x=>.k .rn (x:Nat)⟩
theorem Cw:aoH (cfg []) Al:=nB (enters_of Tryz.func134 (by kernel_rfl) rfl) (fun _=>rfl) fun F x u w hg ht hu=>by obtain rfl:=hu.lu;have hg:Sm BN x:=hg;exact xF (F4 x (by unfold Sm BN at hg;omega) w)
theorem F5 (n:Int) {m:Int} (hm:0<m) : -m<n.tmod m/\n.tmod m<m/\n.tmod m%m=n%m:=by
 refine ⟨Int.lt_tmod_of_pos n hm,Int.tmod_lt_of_pos n hm,?_⟩;have h:=Int.tmod_add_mul_tdiv n m;conv=>rhs;rw [<-h]
 rw [Int.add_mul_emod_self_left]
theorem nI {a b:Nat}:bG a b=0↔a=b:=by unfold bG;(repeat' split) <;> omega
theorem QM {x y:Rat} (h1:x.num=y.num) (h2:x.den=y.den):x=y:=by rw [<-C1 x, <- C1 y,h1,h2]
theorem Sq.ratio {k:Nat} {n d:Int} (hn:Sm k n.natAbs) (hd:Sm k d.natAbs) (h0:d≠0):Sq k ((n:Rat)/(d:Rat)):=by rw [<-z8 n h0];exact H9 (by omega) (by rw [rE];exact hn) hd
noncomputable def WE:List az:=VM::Al::sj::JA::vn::crI::V6::J4::No::xQ::Nt::Jx::[]
theorem vr:bd WE:=⟨PC,Cw,nG,zV,qT,Nq,P7,z6,Kc,mV,xR,zU,trivial⟩
def fhPick:CF
 | [.k (.int .i64) n,.k (.int .i64) m]=>some (some (ax n/\0<m/\m<=9223372036854775807),.k (.int .i64) (n%m:Int),[])
 | _=>none
def Cy:az:=⟨4,false,fhPick⟩
def QN (n m:Int):bk:=⟨nU,nL,nR,nU⟩
def Cz (n m:Int):Prop:=m≠(0:Int)/\bif decide (n.tmod m<0) then ax (n.tmod m+m)/\n.tmod m+m=n%m else n.tmod m=n%m
theorem KA (n m:Int):aw WE [] (QN n m) Tryz.f4 (.k (.int .i64) (n%m:Int)) [.k (.int .i64) n,.k (.int .i64) m]=Cz n m:=by kernel_rfl
theorem KB (n m:Int) (hg:ax n/\0<m/\m<=9223372036854775807):Cz n m:=by
 obtain ⟨⟨h1,h2⟩,h3,h4⟩:=hg;obtain ⟨a1,a2,a3⟩:=F5 n h3;unfold Cz;refine ⟨by omega,aH (fun h=>⟨⟨by omega,by omega⟩,?_⟩) fun h=>?_⟩
 ·rw [<-a3, <- Int.add_emod_right,Int.emod_eq_of_lt (by omega) (by omega)]
 ·rw [<-a3,Int.emod_eq_of_lt (by omega) (by omega)]
theorem nJ:aoH (cfg []) Cy:=cf vr bp Tryz.func4 (by kernel_rfl) fun args g r hn hc hg hf=>by
 replace hc:fhPick args=some (g,r,hn):=hc;unfold fhPick at hc;split at hc
 ·obtain ⟨rfl,rfl,rfl⟩:=aN hc;cases aY (KA _ _) (KB _ _ hg);exact ⟨rfl,by kernel_rfl,_,by assumption⟩
 ·cases hc
def fhInt:CF
 | [.k .ri x]=>some (some (Sm BN x.natAbs),.k .z x,[])
 | _=>none
def WG:az:=⟨80,false,fhInt⟩
def WH (x:Int):bk:=⟨fun key_=>match key_ with | 1=>5 | _=>0,nL,nR,nU⟩
def WI (x:Int):Prop:=Sm BN x.natAbs/\Sm BN x.natAbs/\bW (decide (x<0)) x.natAbs=x
theorem QO (x:Int):aw WE [] (WH x) Tryz.f80 (.k .z x) [.k .ri x]=WI x:=by kernel_rfl
theorem QP (x:Int) (hg:Sm BN x.natAbs):WI x:=by exact ⟨hg,hg,kS x⟩
theorem QQ:aoH (cfg []) WG:=cf vr bp Tryz.func80 (by kernel_rfl) fun args g r hn hc hg hf=>by
 replace hc:fhInt args=some (g,r,hn):=hc;unfold fhInt at hc;split at hc
 ·obtain ⟨rfl,rfl,rfl⟩:=aN hc;cases aY (QO _) (QP _ hg);exact ⟨rfl,by kernel_rfl,_,by assumption⟩
 ·cases hc
def fhOutInt:CF
 | [.k .z x]=>some (some (Sm BN x.natAbs),.k .ri x,[])
 | _=>none
def Am:az:=⟨132,false,fhOutInt⟩
def F6 (x:Int):bk:=⟨fun key_=>match key_ with | 1=>4 | _=>0,nL,nR,nU⟩
def An (x:Int):Prop:=Sm BN x.natAbs/\Sm BN x.natAbs/\bW (decide (x.sign<0)) x.natAbs=x
theorem CA (x:Int):aw WE [] (F6 x) Tryz.f132 (.k .ri x) [.k .z x]=An x:=by kernel_rfl
theorem CB (x:Int) (hg:Sm BN x.natAbs):An x:=by refine ⟨hg,hg,?_⟩;rw [GU.2 (show x.sign<0↔x<0 from Hr)];exact kS x
theorem CC:aoH (cfg []) Am:=cf vr bp Tryz.func132 (by kernel_rfl) fun args g r hn hc hg hf=>by
 replace hc:fhOutInt args=some (g,r,hn):=hc;unfold fhOutInt at hc;split at hc
 ·obtain ⟨rfl,rfl,rfl⟩:=aN hc;cases aY (CA _) (CB _ hg);exact ⟨rfl,by kernel_rfl,_,by assumption⟩
 ·cases hc
noncomputable def ZT:List az:=WG::Am::WE
theorem CD:bd ZT:=⟨QQ,CC,vr⟩
def fhIn:CF
 | [.k .rq x]=>some (some (Sq BQ x),.k .q x,[])
 | _=>none
def aa7:az:=⟨47,false,fhIn⟩
def ZU (x:Rat):bk:=⟨fun key_=>match key_ with | 1=>12 | _=>0,nL,nR,nU⟩
def aa8 (x:Rat):Prop:=Sm BN x.num.natAbs/\Sm BN x.den/\Sm BN x.den/\(Sm BZ x.num.natAbs/\Sm BZ (bW false x.den).natAbs/\bW false x.den≠0)/\(↑x.num:Rat)/(↑(bW false
 x.den):Rat)=x
theorem WJ (x:Rat):aw ZT [] (ZU x) Tryz.f47 (.k .q x) [.k .rq x]=aa8 x:=by kernel_rfl
theorem WK (x:Rat) (hg:Sq BQ x):aa8 x:=by
 have l:BQ<=BN:=by unfold BQ BN;omega
 have l2:BQ<=BZ:=by unfold BQ BZ;omega
 refine ⟨hg.num.le l,hg.den.le l,hg.den.le l,⟨hg.num.le l2,hg.den.le l2,?_⟩,over_self x⟩;have:=x.den_pos;show ((x.den:Nat):Int)≠0;omega
theorem WL:aoH (cfg []) aa7:=cf CD bp Tryz.func47 (by kernel_rfl) fun args g r hn hc hg hf=>by
 replace hc:fhIn args=some (g,r,hn):=hc;unfold fhIn at hc;split at hc
 ·obtain ⟨rfl,rfl,rfl⟩:=aN hc;cases aY (WJ _) (WK _ hg);exact ⟨rfl,by kernel_rfl,_,by assumption⟩
 ·cases hc
def fhOut:CF
 | [.k .q x]=>some (some (Sq BQ x),.k .rq x,[])
 | _=>none
def WM:az:=⟨104,false,fhOut⟩
def WN (x:Rat):bk:=⟨fun key_=>match key_ with | 1=>4 | _=>0,nL,nR,nU⟩
def WO (x:Rat):Prop:=Sm BN x.num.natAbs/\Sq BQ x/\Sm BN x.den/\Tg x.num x.den/\mkRat x.num x.den=x
theorem QS (x:Rat):aw ZT [] (WN x) Tryz.f104 (.k .rq x) [.k .q x]=WO x:=by kernel_rfl
theorem QT (x:Rat) (hg:Sq BQ x):WO x:=by
 have l:BQ<=BN:=by unfold BQ BN;omega
 exact ⟨hg.num.le l,hg,hg.den.le l,⟨x.den_nz,x.reduced⟩,C1 x⟩
theorem QU:aoH (cfg []) WM:=cf CD bp Tryz.func104 (by kernel_rfl) fun args g r hn hc hg hf=>by
 replace hc:fhOut args=some (g,r,hn):=hc;unfold fhOut at hc;split at hc
 ·obtain ⟨rfl,rfl,rfl⟩:=aN hc;cases aY (QS _) (QT _ hg);exact ⟨rfl,by kernel_rfl,_,by assumption⟩
 ·cases hc
noncomputable def LH3:List az:=WM::ZT
theorem Nv:bd LH3:=⟨QU,CD⟩
def fhSame:CF
 | [.k .q x,.k .rq y]=>some (some (Sq BQ x/\Sq BQ y),.k .bool (decide (x=y)),[])
 | _=>none
def CE:az:=⟨72,false,fhSame⟩
def QV (x y:Rat):bk:=⟨nU,nL,nR,nU⟩
def CG (x y:Rat):Prop:=Sq BQ x/\bif decide ((↑(nl y.den):Int)=0) then ax (0:Int)/\(Sm BN x.num.natAbs/\Sm BN (↑(0:Int):Rat).num.natAbs)/\bif decide (bG x.num.natAbs
 (↑(0:Int):Rat).num.natAbs=0) then bif decide (x.num<0) == decide ((↑(0:Int):Rat).num<0) then (Sm BN x.den/\Sm BN (↑(0:Int) :
 Rat).den)/\decide (bG x.den (↑(0:Int):Rat).den=0)=decide (x=y) else false=decide (x=y) else false=decide (x=y) else (Sm BN x.num.natAbs/\Sm
 BN y.num.natAbs)/\bif decide (bG x.num.natAbs y.num.natAbs=0) then bif decide (x.num<0) == decide (y.num<0) then (Sm BN x.den/\Sm BN
 y.den)/\decide (bG x.den y.den=0)=decide (x=y) else false=decide (x=y) else false=decide (x=y)
theorem KC (x y:Rat):aw LH3 [] (QV x y) Tryz.f72 (.k .bool (decide (x=y))) [.k .q x,.k .rq y]=CG x y:=by kernel_rfl
theorem KD (x y:Rat) (hg:Sq BQ x/\Sq BQ y):CG x y:=by
 obtain ⟨h1,h2⟩:=hg;have l:BQ<=BN:=by unfold BQ BN;omega
 have hn:=(pC y.den).2 y.den_pos;unfold CG;refine ⟨h1,aH (fun h=>by omega) fun _=>⟨⟨h1.num.le l,h2.num.le l⟩,aH (fun h=>nC (fun h'=>⟨⟨h1.den.le l,h2.den.le l⟩,GU.2 ⟨fun e=>?_,fun e=>?_⟩⟩) fun h'=>?_) fun h=>?_⟩⟩
 ·have e1:=nI.1 h;have e2:decide (x.num<0)=decide (y.num<0):=by simpa using h'
  refine QM ?_ (nI.1 e);rw [<-kS x.num, <- kS y.num,e1,e2]
 ·rw [e];exact nI.2 rfl
 ·refine (tS fun e=>?_).symm;rw [e] at h';simp at h'
 ·refine (tS fun e=>h ?_).symm;rw [e];exact nI.2 rfl
theorem xS:aoH (cfg []) CE:=cf Nv bp Tryz.func72 (by kernel_rfl) fun args g r hn hc hg hf=>by
 replace hc:fhSame args=some (g,r,hn):=hc;unfold fhSame at hc;split at hc
 ·obtain ⟨rfl,rfl,rfl⟩:=aN hc;cases aY (KC _ _) (KD _ _ hg);exact ⟨rfl,by kernel_rfl,_,by assumption⟩
 ·cases hc
noncomputable def LH4:List az:=CE::LH3
theorem ZV:bd LH4:=⟨xS,Nv⟩
def fhIs:CF
 | [.k .q x,.k (.int .i64) n,.k (.int .i64) d]=>some (some (Sq BQ x/\ax n/\ax d/\d≠0),.k .bool (decide (x=(n:Rat)/(d:Rat))),[])
 | _=>none
def aa9:az:=⟨33,false,fhIs⟩
def ZW (x:Rat) (n d:Int):bk:=⟨fun key_=>match key_ with | 1=>4 | _=>0,nL,nR,nU⟩
def aba (x:Rat) (n d:Int):Prop:=(ax n/\ax d/\d≠0)/\(Sq BQ x/\Sq BQ ((↑n:Rat)/(↑d:Rat)))/\decide (x=(↑n:Rat)/(↑d:Rat))=decide (x=(↑n:Rat)/(↑d:Rat))
theorem WQ (x:Rat) (n d:Int):aw LH4 [] (ZW x n d) Tryz.f33 (.k .bool (decide (x=(n:Rat)/(d:Rat)))) [.k .q x,.k (.int .i64) n,.k (.int .i64) d]=aba x n d:=by kernel_rfl
theorem WR (x:Rat) (n d:Int) (hg:Sq BQ x/\ax n/\ax d/\d≠0):aba x n d:=by obtain ⟨h1,⟨a1,a2⟩,⟨b1,b2⟩,h4⟩:=hg;exact ⟨⟨⟨a1,a2⟩,⟨b1,b2⟩,h4⟩,⟨h1,(Sq.ratio (k:=64) (Sm.lit (by omega)) (Sm.lit (by omega)) h4).le (by unfold BQ;omega)⟩,rfl⟩
theorem WS:aoH (cfg []) aa9:=cf ZV bp Tryz.func33 (by kernel_rfl) fun args g r hn hc hg hf=>by
 replace hc:fhIs args=some (g,r,hn):=hc;unfold fhIs at hc;split at hc
 ·obtain ⟨rfl,rfl,rfl⟩:=aN hc;cases aY (WQ _ _ _) (WR _ _ _ hg);exact ⟨rfl,by kernel_rfl,_,by assumption⟩
 ·cases hc
theorem QW {w w':World} (h:fm (fun _=>False) w w'):Ext w w':=⟨h.os,h.tape,h.output,h.size,fun i hi=>h.block i hi id⟩
theorem qV {ct:az} (h:aoH (cfg []) ct) {args:List AV} {g:Option Prop} {r:AV} (hc:ct.c args=some (g,r,[])) (hg:bt g) (hr:r.owns=false) {w:World} {vs:List Value} (ht:cK w) (hv:VL (fun _=>True) w dX args vs) :
  Calls Tryz.prog ct.f vs.toArray w (fun e w'=>∃v,e = .returned v/\Ext w w'/\aoI (fun _=>True) w' dX r v):=by
 refine Calls.mono (h.ok args g r [] hc hg (fun _=>True) w vs ht hv) fun e w' ⟨v, β',h1,h2,h3⟩=>⟨v,h1,QW h2.fr,h3.anu (.aO (Ext.refl w')) (fun _ _ _=>trivial) fun id hu=>?_⟩
 exact absurd hu (by rw [dp id hr];simp)
theorem aoI.abb {ok:Nat->Prop} {w:World} {β:Bm} {x:Rat} {v:Value} (h:∃A c B d,v = .agg #[.bool (decide (x.num<0)),.slice A (nl x.num.natAbs) c,.slice B (nl x.den) d]/\bJ x.num.natAbs (.slice A (nl x.num.natAbs) c) w/\bJ x.den (.slice B (nl x.den) d) w):aoI ok w β (.k .rq x) v:=by obtain ⟨A,c,B,d,rfl,h1,h2⟩:=h;exact ⟨_,⟨_,_,rfl,h1,h2⟩,rfl⟩
theorem aoI.rqv {ok:Nat->Prop} {w:World} {β:Bm} {x:Rat} {v:Value} (h:aoI ok w β (.k .rq x) v):∃A c B d,v = .agg #[.bool (decide (x.num<0)),.slice A (nl x.num.natAbs) c,.slice B (nl x.den) d]/\bJ x.num.natAbs (.slice A (nl x.num.natAbs) c) w/\bJ x.den (.slice B (nl x.den) d) w:=by obtain ⟨c,⟨u,v',rfl,h1,h2⟩,hv⟩:=h;obtain ⟨A,c,e1⟩:=h1.form;obtain ⟨B,d,e2⟩:=h2.form;subst e1;subst e2;exact ⟨A,c,B,d,hv,h1,h2⟩
def dd (j:Int):Int:=if j=3 then 2 else if j=4 then 3 else if j=5 then 4 else 1
theorem Nw (j:Int):1<=dd j/\dd j<=4:=by unfold dd;(repeat' split) <;> omega
def hR (n:Int):Rat:=((n%41-20:Int):Rat)/((dd (n.tdiv 41%6):Int):Rat)
theorem KE (n:Int):Sq 64 (hR n):=by have h:=Nw (n.tdiv 41%6);exact Sq.ratio (Sm.lit (by omega)) (Sm.lit (by omega)) (by omega)
theorem Nx {n:Int} (h:ax n):ax (n.tdiv 41):=by
 obtain ⟨h1,h2⟩:=h;rcases Int.lt_or_le n 0 with h0 | h0
 ·obtain ⟨m,rfl⟩:∃m:Int,n = -m:=⟨-n,by omega⟩
  rw [Int.neg_tdiv,Gi (by omega)];constructor <;> omega
 ·rw [Gi h0];constructor <;> omega
theorem mW {w w':World} (h:cK w) (e:Ext w w'):cK w':=Zg _ _ (.aO e) h
theorem QX {w:World} {j:Int} (hj:0<=j/\j<6):(Instr.index 131 (.agg #[.int .i64 1,.int .i64 1,.int .i64 1,.int .i64 2,.int .i64 3,.int .i64 4]) (.int .i64 j)).run Tryz.prog w = .ok (.int .i64 (dd j)) w:=by
 obtain ⟨j,rfl⟩:=Aa hj.1;have hs:(Tryz.prog.info? 2).map (·.size)=some 1:=by kernel_rfl
 obtain ⟨inf,hi,br⟩:=tQ.1 hs;rcases j with _ | _ | _ | _ | _ | _ | j
 all_goals first | omega | simp [Instr.index,asIntOf,run_underlying Tryz.underlying131,run_underlying Tryz.underlying2,sizeOf,typeInfo,hi,br,part,dd,isAgg]
theorem ZX {w w':World} {g:Nat} {t:TypeId} {cs:List Value} (h:ar w g t cs) (hb:∀v∈cs,bf v=true) (k:bS g w w'):Kp (fun _=>False) w w':=
 ⟨k.size,fun i hi ho=>by
  rcases ho with h' | ⟨j,v,h1,h2⟩
  ·exact h'.elim
  ·refine k.block i hi fun e=>?_;injection e with e
   subst e;rw [h.cell] at h1;rw [hb v (yY h1)] at h2
   cases h2⟩
set_option maxRecDepth 20000 in
theorem KF (n:Int) (hn:ax n) (w:World) (ht:cK w):Calls Tryz.prog 55 #[.int .i64 n] w (fun e w'=>∃v,e = .returned v/\Ext w w'/\aoI (fun _=>True) w' dX (.k .rq (hR n)) v):=by
 have HP1:Hid (∀W,cK W->Calls Tryz.prog 4 #[.int .i64 n,.int .i64 41] W (cg (.int .i64 (n%41)) W)):=aad fun W hT=>(qV nJ (args:=[.k (.int .i64) n,.k (.int .i64) (41:Int)]) (vs:=[.int .i64 n,.int .i64 41]) rfl ⟨hn,by decide,by decide⟩ rfl hT ⟨.mkInt _ _,.mkInt _ _,trivial⟩).mono fun e w' ⟨v,h1,h2,h3⟩=>by obtain rfl:=h3.int;exact ⟨h1,h2⟩
 have HP2:Hid (∀W,cK W->Calls Tryz.prog 4 #[.int .i64 (n.tdiv 41),.int .i64 6] W (cg (.int .i64 (n.tdiv 41%6)) W)):=aad fun W hT=>(qV nJ (args:=[.k (.int .i64) (n.tdiv 41),.k (.int .i64) (6:Int)]) (vs:=[.int .i64 (n.tdiv 41),.int .i64 6]) rfl ⟨Nx hn,by decide,by decide⟩ rfl hT ⟨.mkInt _ _,.mkInt _ _,trivial⟩).mono fun e w' ⟨v,h1,h2,h3⟩=>by obtain rfl:=h3.int;exact ⟨h1,h2⟩
 have hd:=Nw (n.tdiv 41%6);have q1:ax (n%41-20):=⟨by omega,by omega⟩
 have q2:ax (dd (n.tdiv 41%6)):=⟨by omega,by omega⟩
 have q3:dd (n.tdiv 41%6)≠0:=by omega
 have HO:Hid (∀W,cK W->Calls Tryz.prog 73 #[.int .i64 (n%41-20),.int .i64 (dd (n.tdiv 41%6))] W (fun e w'=>∃v,e = .returned v/\Ext W w'/\aoI (fun _=>True) w' dX (.k .rq (hR n)) v)):=aad fun W hT=>qV xR (args:=[.k (.int .i64) (n%41-20),.k (.int .i64) (dd (n.tdiv 41%6))]) (vs:=[.int .i64 (n%41-20),.int .i64 (dd (n.tdiv 41%6))]) rfl ⟨q1,q2,q3⟩ rfl hT ⟨.mkInt _ _,.mkInt _ _,trivial⟩;have e1:IntKind.i64.wrap (n%41-20)=n%41-20:=by rw [IntKind.wrap_i64];omega
 have e2:IntKind.i64.wrap (n.tdiv 41)=n.tdiv 41:=by obtain ⟨h1,h2⟩:=Nx hn;rw [IntKind.wrap_i64];omega
 have HT:=aad ht;have h6:0<=n.tdiv 41%6/\n.tdiv 41%6<6:=by omega
 have H6:=aad h6;clear ht hd hn h6 q1 q2 q3;go_enter Tryz.func55,Tryz.ntmps55
 go_wp2_with fail
 have hx:Ext w (w.alloc (.cells #[.bool false,.slice none 0 0,.slice none 0 0] 65)):=(Ext.refl w).alloc _;have hr:=ar.new w 65 [.bool false,.slice none 0 0,.slice none 0 0];have HX:=aad hx;have HR:=aad hr;clear hx hr;refine (HP1.out _ (mW HT.out HX.out)).mono ?_;rintro e w1 ⟨rfl,bU⟩;have im:=aad bU;clear bU;go_wp2_with fail
 refine (HP2.out _ (mW (mW HT.out HX.out) im.out)).mono ?_;rintro e w2 ⟨rfl,fP⟩;have mo:=aad fP;clear fP;go_wp2_with fail
 rw [QX H6.out];go_wp2_with fail
 refine (HO.out _ (mW (mW (mW HT.out HX.out) im.out) mo.out)).mono ?_;rintro e w3 ⟨v3,rfl,eR,WD⟩;obtain ⟨A,c,B,d,rfl,k1,k2⟩:=WD.rqv;have bx:=((HR.out.ext im.out).ext mo.out).ext eR;have r0:w3.cell? ⟨w.heap.size,0,none⟩=some (.bool false):=bx.cell 0;have r1:w3.cell? ⟨w.heap.size,1,none⟩=some (.slice none 0 0):=bx.cell 1;have r2:w3.cell? ⟨w.heap.size,2,none⟩=some (.slice none 0 0):=bx.cell 2;have f0:w3.frozen? ⟨w.heap.size,0,none⟩=false:=bx.frozen 0;have f1:w3.frozen? ⟨w.heap.size,1,none⟩=false:=bx.frozen 1;have f2:w3.frozen? ⟨w.heap.size,2,none⟩=false:=bx.frozen 2;have he:Ext w w3:=((HX.out.trans im.out).trans mo.out).trans eR;have HE:=aad he;have Pl:=aad k1;have Zt:=aad k2;clear he k1 k2 eR WD;go_wp2
 have hb:=aad (bS.set (bS.set (bS.set (bS.refl w.heap.size w3) 0 (.bool (decide ((hR n).num<0)))) 1 (.slice A (nl (hR n).num.natAbs) c)) 2 (.slice B (nl (hR n).den) d));have kp:=aad (ZX bx (fun v hv=>by simp at hv;rcases hv with rfl | rfl <;> rfl) hb.out);refine bodyPost_ret (results_cell_row (p:=2) rfl _ _ w.heap.size 65 #[.bool (decide ((hR n).num<0)),.slice A (nl (hR n).num.natAbs) c,.slice B (nl (hR n).den) d] (0,0) _ rfl (((bx.set 0 _).set 1 _).set 2 _) Tryz.underlying65 rfl (by kernel_rfl)) rfl ⟨_,rfl,hb.out.ext HE.out (eM _),.abb ⟨A,c,B,d,rfl,ie Pl.out kp.out,ie Zt.out kp.out⟩⟩
def ZY:az:=⟨55,false,on1 (.int .i64) (fun n=>some (ax n)) fun n=>.k .rq (hR n)⟩
theorem CH:aoH (cfg []) ZY:=nB (enters_of Tryz.func55 (by kernel_rfl) rfl) (fun _=>rfl) fun F n u w hg ht hu=>by obtain rfl:=hu.int;exact (KF n hg w ht).mono fun e w' ⟨v,h1,h2,h3⟩=>⟨v,h1,h2,.abb h3.rqv⟩
def aA {α:Type} (n:Nat) (f:Nat->α):List α:=(List.range n).map f
section
variable {α β:Type}
@[simp] theorem mX (n:Nat) (f:Nat->α):(aA n f).length=n:=by simp [aA]
theorem fW {n i:Nat} {f:Nat->α} (h:i<n) (d:α):(aA n f).getD i d=f i:=by rw [aV,aA,Af,Hn h];rfl
theorem aAu {n i:Nat} {f:Nat->α} (h:n<=i) (d:α):(aA n f).getD i d=d:=by rw [aV,nS (by simpa using h)];rfl
theorem tI (n:Nat) (f:Nat->α):aA (n+1) f=aA n f++[f n]:=by simp [aA,Mp]
theorem bE {n:Nat} {f g:Nat->α} (h:∀i,i<n->f i=g i):aA n f=aA n g:=Mq fun i hi=>h i (yZ.1 hi)
theorem fp {xs ys:List α} (d:α) (hl:xs.length=ys.length) (h:∀i,i<xs.length->xs.getD i d=ys.getD i d):xs=ys:=by
 refine LH fun i=>?_;rcases dz i xs.length with hi | hi
 ·have:=h i hi;rw [aV,aV,gA hi,gA (by omega)] at this;rw [gA hi,gA (by omega)];exact Ga some this
 ·rw [nS hi,nS (by omega)]
theorem ad3 (xs:List α) (d:α):aA xs.length (fun i=>xs.getD i d)=xs:=fp d (by simp) fun i hi=>fW (by simpa using hi) d
theorem vt {xs:List α} {n:Nat} {f:Nat->α} (d:α) (hl:xs.length=n) (h:∀i,i<n->xs.getD i d=f i):xs=aA n f:=fp d (by simpa using hl) fun i hi=>by rw [fW (by omega) d];exact h i (by omega)
theorem b8 (xs:List α) (i j:Nat) (x d:α) (h:i<xs.length):(xs.set i x).getD j d=if j=i then x else xs.getD j d:=by
 rw [aV,List.getElem?_set];by_cases e:i=j
 ·subst e;simp [h]
 ·rw [cM e,cM (fun e'=>e e'.symm),aV]
theorem mY {n i:Nat} {f:Nat->α} {x:α} (h:i<n):(aA n f).set i x=aA n (fun j=>if j=i then x else f j):=by
 cases n with
 | zero=>omega
 | succ n=>
  refine fp x (by simp) fun j hj=>?_;have hj:j<n+1:=by simpa using hj
  rw [b8 _ _ _ _ _ (by simpa using h),fW hj,fW hj]
theorem sv (n:Nat) (f:Nat->α) (g:α->β):(aA n f).map g=aA n (fun i=>g (f i)):=by simp [aA,Function.comp_def]
theorem ahw {n k:Nat} {f:Nat->α} (h:k<=n):(aA n f).take k=aA k f:=by
 cases k with
 | zero=>rfl
 | succ k=>
  refine fp (f 0) (by simp;omega) fun i hi=>?_;have hi:i<k+1:=by simp at hi;omega
  rw [fW hi,aV,List.getElem?_take,eJ hi, <- aV,fW (by omega)]
theorem iO (n:Nat) (x:α):List.replicate n x=aA n (fun _=>x):=
 fp x (by simp) fun i hi=>by
  have hi:i<n:=by simpa using hi
  rw [fW hi,aV,C8,eJ hi];rfl
theorem uW {xs:List α} {i:Nat} (h:i<xs.length) (d:α):xs.take (i+1)=xs.take i++[xs.getD i d]:=by rw [List.take_add_one,gA h,aV,gA h];rfl
theorem ahx {xs:List α} {x:α} (h:x∈xs) (d:α):∃i,i<xs.length/\xs.getD i d=x:=by obtain ⟨i,hi⟩:=F3.1 h;exact ⟨i,(yj.1 hi).1,by rw [aV,hi];rfl⟩
theorem Ao {xs:List α} {i:Nat} (h:i<xs.length) (d:α):xs.getD i d∈xs:=by rw [aV,gA h];exact Lb h
theorem mZ {xs:List α} {i:Nat} (h:xs.length<=i) (d:α):xs.getD i d=d:=by rw [aV,nS h];rfl
theorem xT {xs ys:List α} {i:Nat} (h:i<xs.length) (d:α):(xs++ys).getD i d=xs.getD i d:=by rw [aV,px h,aV]
theorem xU {xs ys:List α} {i:Nat} (h:xs.length<=i) (d:α):(xs++ys).getD i d=ys.getD (i-xs.length) d:=by rw [aV,uy h,aV]
theorem kY (xs:List α) (k i:Nat) (d:α):(xs.drop k).getD i d=xs.getD (k+i) d:=by rw [aV,Gp,aV]
theorem getD_take {xs:List α} {k i:Nat} (h:i<k) (d:α):(xs.take k).getD i d=xs.getD i d:=by rw [aV,List.getElem?_take,eJ h,aV]
theorem getD_map {xs:List α} {g:α->β} {i:Nat} (h:i<xs.length) (d:α) (e:β):(xs.map g).getD i e=g (xs.getD i d):=by rw [aV,Af,aV,gA h];rfl
end
def aG (n m:Nat) (f:Nat->Nat->Rat):List (List Rat):=aA n fun i=>aA m (f i)
def el (M:List (List Rat)) (i j:Nat):Rat:=(M.getD i []).getD j 0
def sumN (f:Nat->Rat):Nat->Rat
 | 0=>0
 | n+1=>sumN f n+f n
theorem uv {n:Nat} {f g:Nat->Rat} (h:∀i,i<n->f i=g i):sumN f n=sumN g n:=by
 induction n with
 | zero=>rfl
 | succ n ih=>rw [sumN,sumN,ih fun i hi=>h i (by omega),h n (by omega)]
theorem Ny {n m i j:Nat} {f:Nat->Nat->Rat} (hi:i<n) (hj:j<m):el (aG n m f) i j=f i j:=by unfold el aG;rw [fW hi,fW hj]
theorem na {n m i:Nat} {f:Nat->Nat->Rat} (hi:i<n):(aG n m f).getD i []=aA m (f i):=fW hi _
@[simp] theorem ab9 (n m:Nat) (f:Nat->Nat->Rat):(aG n m f).length=n:=mX ..
theorem at2 {n m:Nat} {f g:Nat->Nat->Rat} (h:∀i j,i<n->j<m->f i j=g i j):aG n m f=aG n m g:=bE fun i hi=>bE fun j hj=>h i j hi hj
def SL (k:Nat) (xs:List Rat):Prop:=∀i,Sq k (xs.getD i 0)
def SM (k:Nat) (M:List (List Rat)):Prop:=∀i,SL k (M.getD i [])
theorem SL.le {j k:Nat} {xs:List Rat} (h:SL j xs) (hk:j<=k):SL k xs:=fun i=>(h i).le hk
theorem SM.le {j k:Nat} {M:List (List Rat)} (h:SM j M) (hk:j<=k):SM k M:=fun i=>(h i).le hk
theorem SL.nil {k:Nat} (h:1<=k):SL k []:=fun i=>by rw [mZ (by simp)];exact Sq.zero k h
theorem SL.mk {k n:Nat} {f:Nat->Rat} (h:∀i,i<n->Sq k (f i)) (hk:1<=k):SL k (aA n f):=fun i=>by
 rcases dz i n with hi | hi
 ·rw [fW hi];exact h i hi
 ·rw [aAu hi];exact Sq.zero k hk
theorem SM.mk {k n m:Nat} {f:Nat->Nat->Rat} (h:∀i j,i<n->j<m->Sq k (f i j)) (hk:1<=k):SM k (aG n m f):=fun i=>by
 rcases dz i n with hi | hi
 ·rw [na hi];exact SL.mk (fun j hj=>h i j hi hj) hk
 ·unfold aG;rw [aAu hi];exact SL.nil hk
theorem SM.el {k:Nat} {M:List (List Rat)} (h:SM k M) (i j:Nat):Sq k (el M i j):=h i j
theorem Sq.sumN {k n:Nat} {f:Nat->Rat} (h:∀i,i<n->Sq k (f i)):Sq ((k+1)*n+1) (sumN f n):=by
 induction n with
 | zero=>exact Sq.zero _ (by omega)
 | succ n ih=>have:=(ih fun i hi=>h i (by omega)).add (h n (by omega));exact this.le (by rw [Nat.mul_succ];omega)
def cE (l:List Int) (i:Nat):Rat:=if i<l.length then hR (l.getD i 0) else 0
theorem WT (l:List Int) (i:Nat):Sq 64 (cE l i):=by
 unfold cE;split
 ·exact KE _
 ·exact Sq.zero 64 (by omega)
theorem QY (l:List Int) (k j:Nat):cE (cutL l (some (if ((k:Nat):Int)<((l.length:Nat):Int) then ((k:Nat):Int) else ((l.length:Nat):Int))) none) j=cE l (k+j):=by
 by_cases h:k<l.length
 ·rw [eJ (by omega)];show cE (l.drop k) j=_;unfold cE;rw [GR,kY];by_cases h':k+j<l.length
  ·rw [eJ (by omega),eJ h']
  ·rw [cM (by omega),cM h']
 ·rw [cM (by omega)];show cE (l.drop l.length) j=_;unfold cE;rw [Gh,cM (by simp),cM (by omega)]
theorem QZ {l:List Int} (h:∀i,ax (l.getD i 0)) (k:Int) (i:Nat):ax ((cutL l (some k) none).getD i 0):=by show ax ((l.drop k.toNat).getD i 0);rw [kY];exact h _
theorem au5 {α:Type} {n:Nat} {f:Nat->α} {v:α} (h:v=f n):(aA n f).append [v]=aA (n+1) f:=by rw [h];exact (tI n f).symm
theorem qW {α:Type} {xs:List α} {i:Nat} {d:α} (h:i<xs.length):(xs.take i).append [xs.getD i d]=xs.take (i+1):=(uW h d).symm
noncomputable def LL1:List az:=ZY::aa7::xQ::[]
theorem Nz:bd LL1:=⟨CH,WL,mV,trivial⟩
def fhRow:CF
 | [.k (.list (.int .i64)) l,.k (.int .i64) ((n:Nat):Int)]=>some (some ((∀i,ax (l.getD i 0))/\n<=1000000000000),.k (.list .rq) (aA n (cE l)),[])
 | _=>none
def aiq:az:=⟨23,false,fhRow⟩
def air (l:List Int) (n:Nat):bk:=⟨nU,fun key_=>match key_ with
 | 3=>some (⟨Nat,fun i=>[(0,.k (.list (.int .i64)) l),(1,.k (.int .i64) ((n:Nat):Int)),(5,.own 5 0 3),(6,.k (.int .i64) ((i:Nat):Int))],
 fun i=>[(5,.arr 65 .rq (aA i (cE l)))],fun _ i=>i<=n,fun i=>n-i⟩) | _=>none,nR,nU⟩
def agF (l:List Int) (n:Nat):Prop:=∃(x0:Nat),((l=l/\(↑n:Int)=↑n/\(0:Int)=(↑x0:Int))/\aA x0 (cE l)=[])/\x0<=n/\∀(x:Nat),x<=n->bif decide ((↑x:Int)<↑n)
 then l.length<=(9223372036854775807:Nat)->bif decide ((↑x:Int)<↑l.length) then (0<=(↑x:Int)/\(↑x:Int)<↑l.length)/\ax (l.getD
 (↑x:Int).toNat (0:Int))/\(aA x (cE l)).length+[hR (l.getD (↑x:Int).toNat 0)].length<=aB/\ax ((↑x:Int)+1)/\∃(x':Nat),((l=l /\
 (↑n:Int)=↑n/\(↑x:Int)+1=↑x')/\(aA x (cE l)).append [hR (l.getD (↑x:Int).toNat 0)]=aA x' (cE l))/\x'<=n/\n-x' <
 n-x else ax (0:Int)/\(aA x (cE l)).length+[(↑(0:Int):Rat)].length<=aB/\ax ((↑x:Int)+1)/\∃(x':Nat),((l=l/\(↑n:Int)=↑n
 /\ (↑x:Int)+1=↑x')/\(aA x (cE l)).append [(↑(0:Int):Rat)]=aA x' (cE l))/\x'<=n/\n-x'<n-x else aA x (cE l)=aA n (cE l)
theorem ahy (l:List Int) (n:Nat):aw LL1 [] (air l n) Tryz.f23 (.k (.list .rq) (aA n (cE l))) [.k (.list (.int .i64)) l,.k (.int .i64) ((n:Nat):Int)]=agF l n:=by kernel_rfl
theorem ahz (l:List Int) (n:Nat) (hg:(∀i,ax (l.getD i 0))/\n<=1000000000000):agF l n:=by
 obtain ⟨hl,hn⟩:=hg;unfold agF;refine ⟨0,⟨⟨rfl,rfl,rfl⟩,rfl⟩,ia _,fun i hi=>aH (fun h _=>aH (fun h'=>⟨⟨by omega,h'⟩,hl i,by simp [aB];omega,⟨by omega,by omega⟩,i+1,⟨⟨rfl,rfl,rfl⟩,au5 ?_⟩,by omega,by omega⟩) fun h'=>⟨⟨by omega,by omega⟩,by simp [aB];omega,⟨by omega,by omega⟩,i+1,⟨⟨rfl,rfl,rfl⟩,au5 ?_⟩,by omega,by omega⟩) fun h=>?_⟩
 ·exact (eJ (by omega)).symm
 ·exact (cM (by omega)).symm
 ·rw [show i=n by omega]
theorem ahA:aoH (cfg []) aiq:=cf Nz bp Tryz.func23 (by kernel_rfl) fun args g r hn hc hg hf=>by
 replace hc:fhRow args=some (g,r,hn):=hc;unfold fhRow at hc;split at hc
 ·obtain ⟨rfl,rfl,rfl⟩:=aN hc;cases aY (ahy _ _) (ahz _ _ hg);exact ⟨rfl,by kernel_rfl,_,by assumption⟩
 ·cases hc
noncomputable def LL2:List az:=aiq::LL1
theorem NA:bd LL2:=⟨ahA,Nz⟩
def fhRows:CF
 | [.k (.list (.int .i64)) l,.k (.int .i64) ((n:Nat):Int),.k (.int .i64) ((m:Nat):Int)]=>some (some ((∀i,ax (l.getD i 0))/\n<=1000000/\m<=1000000),.k (.list (.list .rq)) (aG n m fun i j=>cE l (i*m+j)),[])
 | _=>none
def aiX:az:=⟨7,false,fhRows⟩
def ahB (l:List Int) (n m:Nat):bk:=⟨nU,fun key_=>match key_ with
 | 3=>some (⟨Nat,fun i=>[(0,.k (.list (.int .i64)) l),(1,.k (.int .i64) ((n:Nat):Int)),(2,.k (.int .i64) ((m:Nat):Int)),(7,.own 7 0 1),(8,.k (.int .i64) ((i:Nat):Int))],
 fun i=>[(7,.arr 56 (.list .rq) (aG i m fun i j=>cE l (i*m+j)))],fun _ i=>i<=n,fun i=>n-i⟩) | _=>none,nR,nU⟩
def afx (l:List Int) (n m:Nat):Prop:=∃(x0:Nat),((l=l/\(↑n:Int)=↑n/\(↑m:Int)=↑m/\(0:Int)=(↑x0:Int))/\(aG x0 m fun (i j:Nat)=>cE l (i*m+j))=[])/\x0<=n/\∀
 (x:Nat),let u2:=aG x m fun (i j:Nat)=>cE l (i*m+j);
 let u1:=some (if (↑x:Int)*(↑m:Int)<↑l.length then (↑x:Int)*(↑m:Int) else (↑l.length:Int));x<=n->bif decide ((↑x:Int)<↑n) then
 l.length<=(9223372036854775807:Nat)->ax ((↑x:Int)*(↑m:Int))/\axe l.length u1 none none/\((∀(i:Nat),ax ((cutL l u1 none).getD i 0))/\m <=
 (1000000000000:Nat))/\u2.length+[aA m (cE (cutL l u1 none))].length<=aB/\ax ((↑x:Int)+1)/\∃(x':Nat),((l=l/\(↑n:Int)=↑n/\(↑m
 : Int)=(↑m:Int)/\(↑x:Int)+1=↑x')/\u2.append [aA m (cE (cutL l u1 none))]=aG x' m fun (i j:Nat)=>cE l (i*m+j))/\x'<=n/\n -
 x'<n-x else u2=aG n m fun (i j:Nat)=>cE l (i*m+j)
theorem agG (l:List Int) (n m:Nat):aw LL2 [] (ahB l n m) Tryz.f7 (.k (.list (.list .rq)) (aG n m fun i j=>cE l (i*m+j))) [.k (.list (.int .i64)) l,.k (.int .i64) ((n:Nat):Int),.k (.int .i64) ((m:Nat):Int)]=afx l n m:=by kernel_rfl
theorem agH (l:List Int) (n m:Nat) (hg:(∀i,ax (l.getD i 0))/\n<=1000000/\m<=1000000):afx l n m:=by
 obtain ⟨hl,hn,hm⟩:=hg;unfold afx;refine ⟨0,⟨⟨rfl,rfl,rfl,rfl⟩,rfl⟩,ia _,fun i hi=>aH (fun h _=>?_) fun h=>?_⟩
 ·have hb:=Cf (show i<=1000000 by omega) hm;have e:(i:Int)*(m:Int)=((i*m:Nat):Int):=(Cd i m).symm;rw [e];refine ⟨⟨by omega,by omega⟩,⟨by split <;> omega,by split <;> omega⟩,⟨QZ hl _,by omega⟩,by simp [aB];omega,⟨by omega,by omega⟩,i+1,⟨⟨rfl,rfl,rfl,rfl⟩,au5 ?_⟩,by omega,by omega⟩;exact bE fun j _=>QY l _ j
 ·rw [show i=n by omega]
theorem agI:aoH (cfg []) aiX:=cf NA bp Tryz.func7 (by kernel_rfl) fun args g r hn hc hg hf=>by
 replace hc:fhRows args=some (g,r,hn):=hc;unfold fhRows at hc;split at hc
 ·obtain ⟨rfl,rfl,rfl⟩:=aN hc;cases aY (agG _ _ _) (agH _ _ _ hg);exact ⟨rfl,by kernel_rfl,_,by assumption⟩
 ·cases hc
def fhInRow:CF
 | [.k (.list .rq) xs]=>some (some (SL BQ xs),.k (.list .q) xs,[])
 | _=>none
def xV:az:=⟨18,false,fhInRow⟩
def KG (xs:List Rat):bk:=⟨nU,fun key_=>match key_ with
 | 3=>some (⟨Nat,fun i=>[(0,.k (.list .rq) xs),(3,.own 3 0 5),(4,.k (.int .i64) ((i:Nat):Int))],
 fun i=>[(3,.arr 45 .q (xs.take i))],fun _ i=>i<=xs.length,fun i=>xs.length-i⟩) | _=>none,nR,nU⟩
def xW (xs:List Rat):Prop:=∃(x0:Nat),((xs=xs/\(0:Int)=(↑x0:Int))/\List.take x0 xs=[])/\x0<=xs.length/\∀(x:Nat),x<=xs.length->xs.length<=aB->bif decide ((↑x:Int) <
 (↑xs.length:Int)) then (0<=(↑x:Int)/\(↑x:Int)<↑xs.length)/\Sq BQ (xs.getD (↑x:Int).toNat 0)/\(List.take x xs).length+[xs.getD (↑x
 : Int).toNat 0].length<=aB/\ax ((↑x:Int)+1)/\∃(x':Nat),((xs=xs/\(↑x:Int)+1=↑x')/\(List.take x xs).append [xs.getD
 (↑x:Int).toNat (0:Rat)]=List.take x' xs)/\x'<=xs.length/\xs.length-x'<xs.length-x else List.take x xs=xs
theorem F7 (xs:List Rat):aw LL2 [] (KG xs) Tryz.f18 (.k (.list .q) xs) [.k (.list .rq) xs]=xW xs:=by kernel_rfl
theorem F8 (xs:List Rat) (hg:SL BQ xs):xW xs:=by unfold xW;refine ⟨0,⟨⟨rfl,rfl⟩,rfl⟩,ia _,fun i hi hL=>aH (fun h=>⟨⟨by omega,h⟩,hg i,by unfold aB at hL ⊢;simp;omega,⟨by unfold aB at hL;omega,by unfold aB at hL;omega⟩,i+1,⟨⟨rfl,rfl⟩,qW (by omega)⟩,by omega,by omega⟩) fun h=>?_⟩;exact qZ (by omega)
theorem uw:aoH (cfg []) xV:=cf NA bp Tryz.func18 (by kernel_rfl) fun args g r hn hc hg hf=>by
 replace hc:fhInRow args=some (g,r,hn):=hc;unfold fhInRow at hc;split at hc
 ·obtain ⟨rfl,rfl,rfl⟩:=aN hc;cases aY (F7 _) (F8 _ hg);exact ⟨rfl,by kernel_rfl,_,by assumption⟩
 ·cases hc
noncomputable def Z2:List az:=xV::LL2
theorem CI:bd Z2:=⟨uw,NA⟩
def fhInRows:CF
 | [.k (.list (.list .rq)) M]=>some (some (SM BQ M),.k (.list (.list .q)) M,[])
 | _=>none
def Ap:az:=⟨5,false,fhInRows⟩
def F9 (M:LM):bk:=⟨nU,fun key_=>match key_ with
 | 3=>some (⟨Nat,fun i=>[(0,.k (.list (.list .rq)) M),(3,.own 3 0 1),(4,.k (.int .i64) ((i:Nat):Int))],
 fun i=>[(3,.arr 36 (.list .q) (M.take i))],fun _ i=>i<=M.length,fun i=>M.length-i⟩) | _=>none,nR,nU⟩
def tJ (M:LM):Prop:=∃(x0:Nat),((M=M/\(0:Int)=(↑x0:Int))/\List.take x0 M=[])/\x0<=M.length/\∀(x:Nat),x<=M.length->M.length<=aB->bif decide ((↑x:Int)<(↑M.length
 : Int)) then (0<=(↑x:Int)/\(↑x:Int)<↑M.length)/\SL BQ (M.getD (↑x:Int).toNat [])/\(List.take x M).length+[M.getD (↑x:Int).toNat []].length
 <= aB/\ax ((↑x:Int)+1)/\∃(x':Nat),((M=M/\(↑x:Int)+1=↑x')/\(List.take x M).append [M.getD (↑x:Int).toNat []]=List.take x'
 M)/\x'<=M.length/\M.length-x'<M.length-x else List.take x M=M
theorem CJ (M:LM):aw Z2 [] (F9 M) Tryz.f5 (.k (.list (.list .q)) M) [.k (.list (.list .rq)) M]=tJ M:=by kernel_rfl
theorem CK (M:LM) (hg:SM BQ M):tJ M:=by unfold tJ;refine ⟨0,⟨⟨rfl,rfl⟩,rfl⟩,ia _,fun i hi hL=>aH (fun h=>⟨⟨by omega,h⟩,hg i,by unfold aB at hL ⊢;simp;omega,⟨by unfold aB at hL;omega,by unfold aB at hL;omega⟩,i+1,⟨⟨rfl,rfl⟩,qW (by omega)⟩,by omega,by omega⟩) fun h=>?_⟩;exact qZ (by omega)
theorem CL:aoH (cfg []) Ap:=cf CI bp Tryz.func5 (by kernel_rfl) fun args g r hn hc hg hf=>by
 replace hc:fhInRows args=some (g,r,hn):=hc;unfold fhInRows at hc;split at hc
 ·obtain ⟨rfl,rfl,rfl⟩:=aN hc;cases aY (CJ _) (CK _ hg);exact ⟨rfl,by kernel_rfl,_,by assumption⟩
 ·cases hc
def dW (xs ys:List Rat):Rat:=sumN (fun k=>xs.getD k 0*ys.getD k 0) xs.length
def lM (xs ys:List Rat):Prop:=∃j k,SL j xs/\SL k ys/\(j+k+1)*xs.length+j+k+1<=BQ
theorem lM.at {xs ys:List Rat} (h:lM xs ys) (i:Nat):Sq BQ (xs.getD i 0)/\Sq BQ (ys.getD i 0)/\Sq BQ (xs.getD i 0*ys.getD i 0):=by obtain ⟨j,k,h1,h2,h3⟩:=h;exact ⟨(h1 i).le (by omega),(h2 i).le (by omega),((h1 i).mul (h2 i)).le (by omega)⟩
theorem lM.sum {xs ys:List Rat} (h:lM xs ys) {i:Nat} (hi:i<=xs.length):Sq BQ (sumN (fun k=>xs.getD k 0*ys.getD k 0) i):=by obtain ⟨j,k,h1,h2,h3⟩:=h;have h4:=iR (j+k+1) hi;exact (Sq.sumN (k:=j+k) (n:=i) fun t _=>(h1 t).mul (h2 t)).le (by omega)
theorem x4 {xs ys:List Rat} {j k:Nat} (h1:SL j xs) (h2:SL k ys):Sq ((j+k+1)*xs.length+1) (dW xs ys):=Sq.sumN fun t _=>(h1 t).mul (h2 t)
def cmpL:List Rat->List Rat->Int
 | [],[]=>0
 | [],_::_=> -1
 | _::_,[]=>1
 | x::xs,y::ys=>if fS x y=0 then cmpL xs ys else fS x y
theorem gz {x y:Rat}:fS x y=0↔x=y:=by
 unfold fS;constructor
 ·intro h;split at h
  ·omega
  ·split at h
   ·assumption
   ·omega
 ·intro h;subst h;rw [cM Rat.lt_irrefl,eJ rfl]
theorem x5:∀{xs ys:List Rat},cmpL xs ys=0↔xs=ys
 | [],[]=>by simp [cmpL]
 | [],_::_=>by simp [cmpL]
 | _::_,[]=>by simp [cmpL]
 | x::xs,y::ys=>by
  unfold cmpL;split
  ·rename_i h;rw [x5,gz.1 h];simp
  ·rename_i h;constructor
   ·exact fun e=>absurd e h
   ·intro e;injection e with e1 e2
    exact absurd (gz.2 e1) h
theorem x6 {xs ys:List Rat} {i:Nat} (h1:i<xs.length) (h2:i<ys.length):cmpL (xs.drop i) (ys.drop i)=if fS (xs.getD i 0) (ys.getD i 0)=0 then cmpL (xs.drop (i+1)) (ys.drop (i+1)) else fS (xs.getD i 0) (ys.getD i 0):=by rw [yc h1,yc h2,cmpL,aV,aV,gA h1,gA h2];rfl
theorem Aq {xs ys:List Rat} (h1:xs=[]):cmpL xs ys=if ys.length=0 then 0 else -1:=by
 subst h1
 cases ys <;> simp [cmpL]
theorem Q0 {xs ys:List Rat} (h1:xs≠[]) (h2:ys=[]):cmpL xs ys=1:=by
 subst h2
 cases xs with
 | nil=>exact absurd rfl h1
 | cons=>rfl
noncomputable def Q1:List az:=Ke::xQ::Kv::Kx::[]
theorem aCn:bd Q1:=⟨z7,mV,Ai,Aj,trivial⟩
def fdDot:CF
 | [.k (.list .rq) xs,.k (.list .rq) ys]=>some (some (xs.length<=ys.length/\lM xs ys),.k .rq (dW xs ys),[])
 | _=>none
def WW:az:=⟨54,false,fdDot⟩
def WX (xs ys:List Rat):bk:=⟨fun key_=>match key_ with | 5=>10 | _=>0,fun key_=>match key_ with
 | 3=>some (⟨Nat,fun i=>[(0,.k (.list .rq) xs),(1,.k (.list .rq) ys),(4,.pt 4 0 3 0 0),(5,.pt 5 0 3 0 0),(6,.k (.int .i64) ((i:Nat):Int))],
 fun i=>[(4,.box 65 (.agg (.cons (.k .ri (0:Int)) (.cons (.k .rn (0:Nat)) .nil)))),(5,.box 65 (.k .rq (sumN (fun k=>xs.getD k 0*ys.getD k 0) i)))],fun _ i=>i<=xs.length,fun i=>xs.length-i⟩) | _=>none,nR,nU⟩
def KI (xs ys:List Rat):Prop:=((-9223372036854775808:Int)<=(0:Int)/\(0:Int)<=(9223372036854775807:Int))/\∃(x0:Nat),((xs=xs/\ys=ys/\(0:Int)=(↑x0:Int))/\((0:Int)=(0 :
 Int)/\(0:Nat)=0)/\(↑(0:Int):Rat)=sumN (fun (k:Nat)=>xs.getD k 0*ys.getD k 0) x0)/\x0<=xs.length/\∀(x:Nat),x<=xs.length ->
 xs.length<=aB->bif decide ((↑x:Int)<↑xs.length) then (0<=(↑x:Int)/\(↑x:Int)<↑xs.length)/\(0<=(↑x:Int)/\(↑x:Int) <
 (↑ys.length:Int))/\(Sq BQ (xs.getD (↑x:Int).toNat 0)/\Sq BQ (ys.getD (↑x:Int).toNat 0))/\(Sq BQ (sumN (fun (k:Nat)=>xs.getD k 0 *
 ys.getD k 0) x)/\Sq BQ (xs.getD (↑x:Int).toNat 0*ys.getD (↑x:Int).toNat 0))/\((-9223372036854775808:Int)<=(↑x:Int)+1/\(↑x
 : Int)+(1:Int)<=(9223372036854775807:Int))/\∃(x':Nat),((xs=xs/\ys=ys/\(↑x:Int)+1=↑x')/\((0:Int)=(0:Int)/\(0:Nat)=(0 :
 Nat))/\sumN (fun (k:Nat)=>xs.getD k 0*ys.getD k 0) x+xs.getD (↑x:Int).toNat 0*ys.getD (↑x:Int).toNat 0=sumN (fun (k :
 Nat)=>xs.getD k 0*ys.getD k 0) x')/\x'<=xs.length/\xs.length-x'<xs.length-x else sumN (fun (k:Nat)=>xs.getD k 0*ys.getD k (0 :
 Rat)) x=dW xs ys
theorem Q5 (xs ys:List Rat):aw Q1 [] (WX xs ys) Tryz.f54 (.k .rq (dW xs ys)) [.k (.list .rq) xs,.k (.list .rq) ys]=KI xs ys:=by kernel_rfl
theorem Q6 (xs ys:List Rat) (hg:xs.length<=ys.length/\lM xs ys):KI xs ys:=by obtain ⟨hl,hd⟩:=hg;unfold KI;refine ⟨by omega,0,⟨⟨rfl,rfl,rfl⟩,⟨rfl,rfl⟩,rfl⟩,ia _,fun i hi hL=>?_⟩;unfold aB at hL;refine aH (fun h'=>⟨⟨by omega,h'⟩,⟨by omega,by omega⟩,⟨(hd.at i).1,(hd.at i).2.1⟩,⟨hd.sum hi,(hd.at i).2.2⟩,⟨by omega,by omega⟩,i+1,⟨⟨rfl,rfl,rfl⟩,⟨rfl,rfl⟩,rfl⟩,by omega,by omega⟩) fun h'=>?_;rw [show i=xs.length by omega];rfl
theorem Q7:aoH (cfg []) WW:=cf aCn bp Tryz.func54 (by kernel_rfl) fun args g r hn hc hg hf=>by
 replace hc:fdDot args=some (g,r,hn):=hc;unfold fdDot at hc;split at hc
 ·obtain ⟨rfl,rfl,rfl⟩:=aN hc;cases aY (Q5 _ _) (Q6 _ _ hg);exact ⟨rfl,by kernel_rfl,_,by assumption⟩
 ·cases hc
def fsCmp:CF
 | [.k (.list .q) xs,.k (.list .q) ys,.fn 56 .nil]=>some (some (SL BQ xs/\SL BQ ys),.k (.int .i64) (cmpL xs ys),[])
 | _=>none
def WY:az:=⟨77,false,fsCmp⟩
def WZ (xs ys:List Rat):bk:=⟨nU,fun key_=>match key_ with
 | 2=>some (⟨Nat,fun i=>[(0,.k (.list .q) xs),(1,.k (.list .q) ys),(2,.fn 56 .nil),(11,.k (.list .q) xs),(12,.k (.int .i64) ((xs.length:Nat):Int)),(13,.k (.int .i64) ((i:Nat):Int))],
 fun i=>[],fun _ i=>i<=xs.length/\i<=ys.length/\cmpL xs ys=cmpL (xs.drop i) (ys.drop i),fun i=>xs.length-i⟩) | _=>none,nR,nU⟩
def KJ (xs ys:List Rat):Prop:=xs.length<=aB->∃(x0:Nat),(xs=xs/\ys=ys/\xs=xs/\(↑xs.length:Int)=↑xs.length/\(0:Int)=(↑x0:Int))/\(x0<=xs.length/\x0<=ys.length /\
 cmpL xs ys=cmpL (List.drop x0 xs) (List.drop x0 ys))/\∀(x:Nat),x<=xs.length/\x<=ys.length/\cmpL xs ys=cmpL (List.drop x xs) (List.drop x ys)->bif decide
 ((↑x:Int)<↑xs.length) then (0<=(↑x:Int)/\(↑x:Int)<↑xs.length)/\(ys.length<=aB->bif decide ((↑ys.length:Int)<=(↑x:Int)) then
 (1:Int)=cmpL xs ys else (0<=(↑x:Int)/\(↑x:Int)<↑ys.length)/\(Sq BQ (xs.getD (↑x:Int).toNat 0)/\Sq BQ (ys.getD (↑x:Int).toNat (0
 : Rat)))/\bif !decide (fS (xs.getD (↑x:Int).toNat 0) (ys.getD (↑x:Int).toNat 0)=0) then fS (xs.getD (↑x:Int).toNat 0)
 (ys.getD (↑x:Int).toNat 0)=cmpL xs ys else ((-9223372036854775808:Int)<=(↑x:Int)+1/\(↑x:Int)+1<=(9223372036854775807:Int))/\∃
 (x':Nat),(xs=xs/\ys=ys/\xs=xs/\(↑xs.length:Int)=↑xs.length/\(↑x:Int)+1=↑x')/\(x'<=xs.length/\x'<=ys.length/\cmpL xs ys
 = cmpL (List.drop x' xs) (List.drop x' ys))/\xs.length-x'<xs.length-x) else xs.length<=aB->ys.length<=aB->bif decide ((↑xs.length:Int)<(↑ys.length :
 Int)) then (-1:Int)=cmpL xs ys else (0:Int)=cmpL xs ys
theorem Q8 (xs ys:List Rat):aw Q1 [] (WZ xs ys) Tryz.f77 (.k (.int .i64) (cmpL xs ys)) [.k (.list .q) xs,.k (.list .q) ys,.fn 56 .nil]=KJ xs ys:=by kernel_rfl
theorem Q9 (xs ys:List Rat) (hg:SL BQ xs/\SL BQ ys):KJ xs ys:=by
 obtain ⟨h1,h2⟩:=hg;unfold KJ;intro hL;unfold aB at hL;refine ⟨0,⟨rfl,rfl,rfl,rfl,rfl⟩,⟨ia _,ia _,rfl⟩,fun i ⟨hi,hj,he⟩=>aH (fun h=>⟨⟨by omega,h⟩,fun _=>aH (fun h3=>?_) fun h3=>⟨⟨by omega,by omega⟩,⟨h1 i,h2 i⟩,dP (fun h4=>?_) fun h4=>⟨⟨by omega,by omega⟩,i+1,⟨rfl,rfl,rfl,rfl,rfl⟩,⟨by omega,by omega,?_⟩,by omega⟩⟩⟩) fun h _ _=>aH (fun h3=>?_) fun h3=>?_⟩
 ·rw [he,Ce (show ys.length<=i by omega)];exact (Q0 (fun e=>by have:=Ga List.length e;simp at this;omega) rfl).symm
 ·rw [he,x6 (by omega) (by omega)];exact (cM h4).symm
 ·rw [he,x6 (by omega) (by omega)];exact eJ h4
 ·rw [he,Aq (Ce (by omega)),cM (by simp;omega)]
 ·rw [he,Aq (Ce (by omega)),eJ (by simp;omega)]
theorem Ra:aoH (cfg []) WY:=cf aCn bp Tryz.func77 (by kernel_rfl) fun args g r hn hc hg hf=>by
 replace hc:fsCmp args=some (g,r,hn):=hc;unfold fsCmp at hc;split at hc
 ·obtain ⟨rfl,rfl,rfl⟩:=aN hc;cases aY (Q8 _ _) (Q9 _ _ hg);exact ⟨rfl,by kernel_rfl,_,by assumption⟩
 ·cases hc
noncomputable def LV2:List az:=WY::Q1
theorem NC:bd LV2:=⟨Ra,aCn⟩
def CP:CF
 | [.k (.list .q) xs,.k (.list .q) ys]=>some (some (SL BQ xs/\SL BQ ys),.k .bool (decide (xs=ys)),[])
 | _=>none
def ND:az:=⟨42,false,CP⟩
def Rc (xs ys:List Rat):bk:=⟨nU,nL,nR,nU⟩
def NF (xs ys:List Rat):Prop:=((∀(i:Nat),Sq BQ (xs.getD i 0))/\∀(i:Nat),Sq BQ (ys.getD i 0))/\decide (cmpL xs ys=0)=decide (xs=ys)
theorem KN (xs ys:List Rat):aw LV2 [] (Rc xs ys) Tryz.f42 (.k .bool (decide (xs=ys))) [.k (.list .q) xs,.k (.list .q) ys]=NF xs ys:=by kernel_rfl
theorem KO (xs ys:List Rat) (hg:SL BQ xs/\SL BQ ys):NF xs ys:=by exact ⟨hg,GU.2 x5⟩
theorem KP:aoH (cfg []) ND:=cf NC bp Tryz.func42 (by kernel_rfl) fun args g r hn hc hg hf=>by
 replace hc:CP args=some (g,r,hn):=hc;unfold CP at hc;split at hc
 ·obtain ⟨rfl,rfl,rfl⟩:=aN hc;cases aY (KN _ _) (KO _ _ hg);exact ⟨rfl,by kernel_rfl,_,by assumption⟩
 ·cases hc
noncomputable def Z4:List az:=ND::LV2
theorem CQ:bd Z4:=⟨KP,NC⟩
def fsEq:CF
 | [.k (.list (.list .q)) M,.k (.list (.list .q)) N,.fn 42 .nil]=>some (some (SM BQ M/\SM BQ N),.k .bool (decide (M=N)),[])
 | _=>none
def abc:az:=⟨41,false,fsEq⟩
def Z5 (M N:LM):bk:=⟨nU,fun key_=>match key_ with
 | 4=>some (⟨Nat,fun i=>[(1,.k (.list (.list .q)) N),(2,.fn 42 .nil),(15,.k (.list (.list .q)) M),(16,.k (.int .i64) ((M.length:Nat):Int)),(17,.k (.int .i64) ((i:Nat):Int))],
 fun i=>[],fun _ i=>i<=M.length/\M.length=N.length/\∀j,j<i->M.getD j []=N.getD j [],fun i=>M.length-i⟩) | _=>none,nR,nU⟩
def W1 (M N:LM):Prop:=M.length<=aB->N.length<=aB->bif !decide ((↑M.length:Int)=↑N.length) then false=decide (M=N) else M.length<=aB->∃(x0:Nat),(N=N/\M=M /\
 (↑M.length:Int)=↑M.length/\(0:Int)=(↑x0:Int))/\(x0<=M.length/\M.length=N.length/\∀(j:Nat),j<x0->M.getD j []=N.getD j [])/\∀(x:Nat),
 (x<=M.length/\M.length=N.length/\∀(j:Nat),j<x->M.getD j []=N.getD j [])->bif decide ((↑x:Int)<↑M.length) then (0<=(↑x:Int)/\(↑x :
 Int)<(↑M.length:Int))/\(0<=(↑x:Int)/\(↑x:Int)<↑N.length)/\((∀(i:Nat),Sq BQ ((M.getD (↑x:Int).toNat []).getD i 0))/\∀(i :
 Nat),Sq BQ ((N.getD (↑x:Int).toNat []).getD i 0))/\bif !decide (M.getD (↑x:Int).toNat []=N.getD (↑x:Int).toNat []) then false=decide (M=N) else
 ((-9223372036854775808:Int)<=(↑x:Int)+1/\(↑x:Int)+1<=(9223372036854775807:Int))/\∃(x':Nat),(N=N/\M=M/\(↑M.length:Int) =
 (↑M.length:Int)/\(↑x:Int)+1=↑x')/\(x'<=M.length/\M.length=N.length/\∀(j:Nat),j<x'->M.getD j []=N.getD j [])/\M.length-x' <
 M.length-x else true=decide (M=N)
theorem W3 (M N:LM):aw Z4 [] (Z5 M N) Tryz.f41 (.k .bool (decide (M=N))) [.k (.list (.list .q)) M,.k (.list (.list .q)) N,.fn 42 .nil]=W1 M N:=by kernel_rfl
theorem W4 (M N:LM) (hg:SM BQ M/\SM BQ N):W1 M N:=by
 obtain ⟨h1,h2⟩:=hg;unfold W1;intro hL _;unfold aB at hL;refine dP (fun h=>(tS fun e=>h (by rw [e])).symm) fun h=>fun _=>⟨0,⟨rfl,rfl,rfl,rfl⟩,⟨ia _,by omega,fun j hj=>by omega⟩,fun i ⟨hi,hlen,bB⟩=>aH (fun h'=>⟨⟨by omega,h'⟩,⟨by omega,by omega⟩,⟨h1 i,h2 i⟩,dP (fun h3=>(tS fun e=>h3 (by rw [e])).symm) fun h3=>⟨⟨by omega,by omega⟩,i+1,⟨rfl,rfl,rfl,rfl⟩,⟨by omega,hlen,fun j hj=>?_⟩,by omega⟩⟩) fun h'=>(xX ?_).symm⟩
 ·rcases dz j i with h4 | h4
  ·exact bB j h4
  ·rw [show j=i by omega];exact h3
 ·exact fp [] hlen fun j hj=>bB j (by omega)
theorem W5:aoH (cfg []) abc:=cf CQ bp Tryz.func41 (by kernel_rfl) fun args g r hn hc hg hf=>by
 replace hc:fsEq args=some (g,r,hn):=hc;unfold fsEq at hc;split at hc
 ·obtain ⟨rfl,rfl,rfl⟩:=aN hc;cases aY (W3 _ _) (W4 _ _ hg);exact ⟨rfl,by kernel_rfl,_,by assumption⟩
 ·cases hc
noncomputable def LV4:List az:=abc::Z4
theorem Z6:bd LV4:=⟨W5,CQ⟩
def fmSame:CF
 | [.k (.list (.list .q)) M,.k (.list (.list .q)) N]=>some (some (SM BQ M/\SM BQ N),.k .bool (decide (M=N)),[])
 | _=>none
def NG:az:=⟨16,false,fmSame⟩
def Re (M N:LM):bk:=⟨nU,nL,nR,nU⟩
def NH (M N:LM):Prop:=((∀(i jo:Nat),Sq BQ ((M.getD i []).getD jo 0))/\∀(i jo:Nat),Sq BQ ((N.getD i []).getD jo 0))/\decide (M=N)=decide (M=N)
theorem KR (M N:LM):aw LV4 [] (Re M N) Tryz.f16 (.k .bool (decide (M=N))) [.k (.list (.list .q)) M,.k (.list (.list .q)) N]=NH M N:=by kernel_rfl
theorem KS (M N:LM) (hg:SM BQ M/\SM BQ N):NH M N:=by exact ⟨hg,rfl⟩
theorem KT:aoH (cfg []) NG:=cf Z6 bp Tryz.func16 (by kernel_rfl) fun args g r hn hc hg hf=>by
 replace hc:fmSame args=some (g,r,hn):=hc;unfold fmSame at hc;split at hc
 ·obtain ⟨rfl,rfl,rfl⟩:=aN hc;cases aY (KR _ _) (KS _ _ hg);exact ⟨rfl,by kernel_rfl,_,by assumption⟩
 ·cases hc
def fK (M N:LM):Prop:=∃j k l,SM j M/\SM k N/\(∀i,(M.getD i []).length<=l)/\(j+k+1)*l+j+k+1<=BQ
theorem fK.at {M N:LM} (h:fK M N) (i t j:Nat):Sq BQ (el M i t)/\Sq BQ (el N t j)/\Sq BQ (el M i t*el N t j):=by obtain ⟨j',k,l,h1,h2,h3,h4⟩:=h;have a1:=h1.el i t;have a2:=h2.el t j;exact ⟨a1.le (by omega),a2.le (by omega),(a1.mul a2).le (by omega)⟩
theorem fK.sum {M N:LM} (h:fK M N) (i j:Nat) {t:Nat} (ht:t<=(M.getD i []).length):Sq BQ (sumN (fun k=>el M i k*el N k j) t):=by obtain ⟨j',k,l,h1,h2,h3,h4⟩:=h;have h5:=iR (j'+k+1) (jW ht (h3 i));exact (Sq.sumN (k:=j'+k) (n:=t) fun s _=>(h1.el i s).mul (h2.el s j)).le (by omega)
noncomputable def KU:List az:=xK::xM::aa5::[]
theorem pK:bd KU:=⟨pI,pJ,V5,trivial⟩
def fkTurn:CF
 | [.k (.int .i64) ((i:Nat):Int),.k (.int .i64) ((j:Nat):Int),.pk (.list (.list .q)) M]=>some (some (j<M.length/\i<(M.getD j []).length),.k .q (el M j i),[])
 | _=>none
def NI:az:=⟨38,false,fkTurn⟩
def Rf (i j:Nat) (M:LM):bk:=⟨nU,nL,nR,nU⟩
def NJ (i j:Nat) (M:LM):Prop:=(0<=(↑j:Int)/\(↑j:Int)<↑M.length)/\(0<=(↑i:Int)/\(↑i:Int)<↑(M.getD (↑j:Int).toNat []).length)/\(M.getD (↑j :
 Int).toNat []).getD (↑i:Int).toNat 0=el M j i
theorem KW (i j:Nat) (M:LM):aw KU [] (Rf i j M) Tryz.f38 (.k .q (el M j i)) [.k (.int .i64) ((i:Nat):Int),.k (.int .i64) ((j:Nat):Int),.pk (.list (.list .q)) M]=NJ i j M:=by kernel_rfl
theorem KX (i j:Nat) (M:LM) (hg:j<M.length/\i<(M.getD j []).length):NJ i j M:=by exact ⟨⟨by omega,by omega⟩,⟨by omega,Gg.2 hg.2⟩,rfl⟩
theorem KY:aoH (cfg []) NI:=cf pK bp Tryz.func38 (by kernel_rfl) fun args g r hn hc hg hf=>by
 replace hc:fkTurn args=some (g,r,hn):=hc;unfold fkTurn at hc;split at hc
 ·obtain ⟨rfl,rfl,rfl⟩:=aN hc;cases aY (KW _ _ _) (KX _ _ _ hg);exact ⟨rfl,by kernel_rfl,_,by assumption⟩
 ·cases hc
def fkEye:CF
 | [.k (.int .i64) ((i:Nat):Int),.k (.int .i64) ((j:Nat):Int)]=>some (none,.k .q (if i=j then 1 else 0),[])
 | _=>none
def Xf:az:=⟨75,false,fkEye⟩
def Xg (i j:Nat):bk:=⟨nU,nL,nR,nU⟩
def KZ (i j:Nat):Prop:=bif decide ((↑i:Int)=↑j) then ((-9223372036854775808:Int)<=(1:Int)/\(1:Int)<=(9223372036854775807:Int))/\(↑(1:Int):Rat)=if i=j then (1 :
 Rat) else (0:Rat) else ((0:Nat)=(0:Nat)\/(0:Nat)≠(1:Nat)/\(Int.natAbs (0:Int)).Coprime (0:Nat))/\j6 (0:Int) (0:Nat)=if i=j then (1:Rat)
 else (0:Rat)
theorem Rm (i j:Nat):aw KU [] (Xg i j) Tryz.f75 (.k .q (if i=j then 1 else 0)) [.k (.int .i64) ((i:Nat):Int),.k (.int .i64) ((j:Nat):Int)]=KZ i j:=by kernel_rfl
theorem Rn (i j:Nat) (hf:cJ [.k (.int .i64) ((i:Nat):Int),.k (.int .i64) ((j:Nat):Int)]):KZ i j:=by
 unfold KZ;refine aH (fun h=>⟨by omega,?_⟩) fun h=>⟨.inl rfl,?_⟩
 ·rw [eJ (by omega)];rfl
 ·rw [cM (by omega)];exact fN 0
theorem Ro:aoH (cfg []) Xf:=cf pK bp Tryz.func75 (by kernel_rfl) fun args g r hn hc hg hf=>by
 replace hc:fkEye args=some (g,r,hn):=hc;unfold fkEye at hc;split at hc
 ·obtain ⟨rfl,rfl,rfl⟩:=aN hc;cases aY (Rm _ _) (Rn _ _ hf);exact ⟨rfl,by kernel_rfl,_,by assumption⟩
 ·cases hc
def fkMul:CF
 | [.k (.int .i64) ((i:Nat):Int),.k (.int .i64) ((j:Nat):Int),.pk (.list (.list .q)) M,.pk (.list (.list .q)) N]=>some (some (i<M.length/\(M.getD i []).length<=N.length/\(∀k,k<N.length->j<(N.getD k []).length)/\fK M N),.k .q (sumN (fun k=>el M i k*el N k j) (M.getD i []).length),[])
 | _=>none
def Xh:az:=⟨76,false,fkMul⟩
def Xi (i j:Nat) (M N:LM):bk:=⟨fun key_=>match key_ with | 5=>11 | _=>0,fun key_=>match key_ with
 | 3=>some (⟨Nat,fun t=>[(1,.k (.int .i64) ((j:Nat):Int)),(3,.pk (.list (.list .q)) N),(6,.pt 6 0 5 0 0),(7,.pt 7 0 5 0 0),(13,.k (.list .q) (M.getD i [])),(14,.k (.int .i64) (((M.getD i []).length:Nat):Int)),(15,.k (.int .i64) ((t:Nat):Int))],
 fun t=>[(6,.box 45 (.k .q (0:Rat))),(7,.box 45 (.k .q (sumN (fun k=>el M i k*el N k j) t)))],fun _ t=>t<=(M.getD i []).length,fun t=>(M.getD i []).length-t⟩) | _=>none,nR,nU⟩
def K2 (i j:Nat) (M N:LM):Prop:=
 let t1:=M.getD i [];
 (0<=(↑i:Int)/\(↑i:Int)<↑M.length)/\((M.getD (↑i:Int).toNat []).length<=aB->∃(x0:Nat),(((↑j:Int)=↑j/\N=N/\M.getD (↑i :
 Int).toNat []=M.getD i []/\(↑(M.getD (↑i:Int).toNat []).length:Int)=(↑t1.length:Int)/\(0:Int)=(↑x0:Int))/\(0:Rat)=(0:Rat)/\(0:Rat)=sumN (fun
 (k:Nat)=>el M i k*el N k j) x0)/\x0<=t1.length/\∀(x:Nat),x<=t1.length->bif decide ((↑x:Int)<↑t1.length) then (0<=(↑x:Int)/\(↑x :
 Int)<(↑t1.length:Int))/\(0<=(↑x:Int)/\(↑x:Int)<↑N.length)/\(0<=(↑j:Int)/\(↑j:Int)<(↑(N.getD (↑x:Int).toNat []).length :
 Int))/\(Sq BQ (t1.getD (↑x:Int).toNat 0)/\Sq BQ ((N.getD (↑x:Int).toNat []).getD (↑j:Int).toNat 0))/\(Sq BQ (sumN (fun (k:Nat)=>el M i k*el
 N k j) x)/\Sq BQ (t1.getD (↑x:Int).toNat 0*(N.getD (↑x:Int).toNat []).getD (↑j:Int).toNat 0))/\((-9223372036854775808:Int)<=(↑x:Int)+(1 :
 Int)/\(↑x:Int)+1<=(9223372036854775807:Int))/\∃(x':Nat),(((↑j:Int)=↑j/\N=N/\M.getD i []=M.getD i []/\(↑t1.length:Int) =
 (↑t1.length:Int)/\(↑x:Int)+1=↑x')/\(0:Rat)=(0:Rat)/\sumN (fun (k:Nat)=>el M i k*el N k j) x+t1.getD (↑x:Int).toNat 0 *
 (N.getD (↑x:Int).toNat []).getD (↑j:Int).toNat 0=sumN (fun (k:Nat)=>el M i k*el N k j) x')/\x'<=t1.length/\t1.length-x'<t1.length-x else sumN
 (fun (k:Nat)=>el M i k*el N k j) x=sumN (fun (k:Nat)=>el M i k*el N k j) t1.length)
theorem Rp (i j:Nat) (M N:LM):aw KU [] (Xi i j M N) Tryz.f76 (.k .q (sumN (fun k=>el M i k*el N k j) (M.getD i []).length)) [.k (.int .i64) ((i:Nat):Int),.k (.int .i64) ((j:Nat):Int),.pk (.list (.list .q)) M,.pk (.list (.list .q)) N]=K2 i j M N:=by kernel_rfl
theorem Rq (i j:Nat) (M N:LM) (hg:i<M.length/\(M.getD i []).length<=N.length/\(∀k,k<N.length->j<(N.getD k []).length)/\fK M N):K2 i j M N:=by
 obtain ⟨h1,h2,h3,h4⟩:=hg;unfold K2;intro t1;refine ⟨⟨by omega,by omega⟩,fun hL=>⟨0,⟨⟨rfl,rfl,rfl,rfl,rfl⟩,rfl,rfl⟩,ia _,fun t ht=>aH (fun h=>?_) fun h=>?_⟩⟩
 ·have hL:t1.length<=aB:=hL;have h2:t1.length<=N.length:=h2;have I1:t<t1.length:=by omega
  unfold aB at hL;exact ⟨⟨by omega,h⟩,⟨by omega,by omega⟩,⟨by omega,Gg.2 (h3 t (by omega))⟩,⟨(h4.at i t j).1,(h4.at i t j).2.1⟩,⟨h4.sum i j ht,(h4.at i t j).2.2⟩,⟨by omega,by omega⟩,t+1,⟨⟨rfl,rfl,rfl,rfl,rfl⟩,rfl,rfl⟩,by omega,by omega⟩
 ·rw [show t=t1.length by omega]
theorem Rr:aoH (cfg []) Xh:=cf pK bp Tryz.func76 (by kernel_rfl) fun args g r hn hc hg hf=>by
 replace hc:fkMul args=some (g,r,hn):=hc;unfold fkMul at hc;split at hc
 ·obtain ⟨rfl,rfl,rfl⟩:=aN hc;cases aY (Rp _ _ _ _) (Rq _ _ _ _ hg);exact ⟨rfl,by kernel_rfl,_,by assumption⟩
 ·cases hc
def bh (n x:Nat):List Nat:=aA n fun t=>if t<x then t+1 else 0
def bD (x m:Nat) (F:Nat->Nat->Rat):LM:=[]::aG x m F
def fi (i j m:Nat) (F:Nat->Nat->Rat):LM:=[]::aA (i+1) fun t=>aA m fun c=>if t<i\/c<j then F t c else 0
theorem aqK (n x:Nat):(bh n x).length=n:=mX ..
theorem K3 (x m:Nat) (F:Nat->Nat->Rat):(bD x m F).length=x+1:=by simp [bD]
theorem Ar (i j m:Nat) (F:Nat->Nat->Rat):(fi i j m F).length=i+2:=by simp [fi]
theorem x8 (n:Nat):List.replicate n 0=bh n 0:=iO n 0
theorem As {n i:Nat} (h:i<n):(bh n i).set i (i+1)=bh n (i+1):=by
 unfold bh;rw [mY h];refine bE fun j _=>?_
 rcases yl j i with h | h | h
 ·rw [cM (by omega),eJ h,eJ (by omega)]
 ·rw [eJ h,eJ (by omega),h]
 ·rw [cM (by omega),cM (by omega),cM (by omega)]
theorem Gj {n i:Nat} (h:i<n):(bh n (i+1)).getD i 0=i+1:=by unfold bh;rw [fW h,eJ (by omega)]
theorem afH {i m:Nat} {F:Nat->Nat->Rat}:bD i m F++[List.replicate m 0]=fi i 0 m F:=by
 unfold bD fi aG;rw [tI,GB];congr 2
 ·exact bE fun t ht=>bE fun c _=>(eJ (.inl ht)).symm
 ·rw [iO];congr 1;exact bE fun c _=>(cM (by omega)).symm
theorem aA8 {i j m:Nat} {F:Nat->Nat->Rat}:(fi i j m F).getD (i+1) []=aA m fun c=>if c<j then F i c else 0:=by unfold fi;rw [CR,fW (by omega)];exact bE fun c _=>by simp
theorem Rs {i j m:Nat} {F:Nat->Nat->Rat} (h:j<m):(fi i j m F).set (i+1) (((fi i j m F).getD (i+1) []).set j (F i j))=fi i (j+1) m F:=by
 rw [aA8,mY h];unfold fi;rw [List.set_cons_succ,mY (by omega)];congr 1;refine bE fun t ht=>?_;by_cases e:t=i
 ·rw [eJ e];refine bE fun c _=>?_;subst e;by_cases e2:c=j
  ·rw [eJ e2,eJ (.inr (by omega)),e2]
  ·rw [cM e2];by_cases e3:c<j
   ·rw [eJ e3,eJ (.inr (by omega))]
   ·rw [cM e3,cM (by omega)]
 ·rw [cM e];exact bE fun c _=>by rw [eJ (.inl (by omega)),eJ (.inl (by omega))]
theorem K4 {i m:Nat} {F:Nat->Nat->Rat}:fi i m m F=bD (i+1) m F:=by unfold fi bD aG;congr 1;exact bE fun t _=>bE fun c hc=>eJ (.inr hc)
theorem tK {n m:Nat} {F:Nat->Nat->Rat}:List.map (fun p=>(bD n m F).getD p []) (bh n n)=aG n m F:=by
 unfold bh bD aG;rw [sv];refine bE fun i hi=>?_
 rw [eJ hi,CR,fW hi]
def pv (n m:Nat) (W:Prop->Prop) (G:Nat->Nat->Prop->Prop) (F:Nat->Nat->Rat):Prop:=(0<=(↑n:Int)/\(↑n:Int)<=(↑n:Int)/\(↑n:Int) <=
 (1099511627776:Int))/\((List.replicate (↑n:Int).toNat (0:Nat)).length<=aB->∃(x0:Nat),(((↑m:Int)=↑m/\W ((↑(List.replicate (↑n:Int).toNat (0 :
 Nat)).length:Int)=(↑n:Int)/\(0:Int)=(↑x0:Int)))/\List.replicate (↑n:Int).toNat (0:Nat)=bh n x0/\[[]]=bD x0 m F)/\x0<=n/\∀(x:Nat),x<=n
 -> bif decide ((↑x:Int)<↑n) then (0<=(↑m:Int)/\(↑m:Int)<=(↑m:Int)/\(↑m:Int)<=(1099511627776:Int))/\(0<=(↑x:Int)/\(↑x:Int)
 < (↑(bh n x).length:Int))/\((↑x:Int).toNat<(bh n x).length/\(bD x m F).length<((bD x m F)++[List.replicate (↑m:Int).toNat (0:Rat)]).length) /\
 (0<=(↑x:Int)/\(↑x:Int)<(↑((bh n x).set (↑x:Int).toNat ((bD x m F).length)).length:Int))/\(↑x:Int).toNat<((bh n x).set (↑x:Int).toNat
 ((bD x m F).length)).length/\((((bD x m F)++[List.replicate (↑m:Int).toNat (0:Rat)]).getD ((((bh n x).set (↑x:Int).toNat ((bD x m F).length)).getD (↑x
 : Int).toNat 0)) []).length<=aB->(((bh n x).set (↑x:Int).toNat ((bD x m F).length)).getD (↑x:Int).toNat 0)<((bD x m F)++[List.replicate
 (↑m:Int).toNat (0:Rat)]).length/\∃(x0:Nat×Nat),(((↑m:Int)=↑m/\W ((↑x:Int)=↑x0.fst/\(↑n:Int)=↑n/\(↑x:Int)=(↑x0.fst :
 Int)/\(↑(((bD x m F)++[List.replicate (↑m:Int).toNat (0:Rat)]).getD (((bh n x).set (↑x:Int).toNat (bD x m F).length).getD (↑x:Int).toNat 0)
 []).length:Int)=(↑m:Int)/\(0:Int)=(↑x0.snd:Int)))/\(bh n x).set (↑x:Int).toNat ((bD x m F).length)=bh n (x0.fst+1)/\(bD x m F) ++
 [List.replicate (↑m:Int).toNat (0:Rat)]=fi x0.fst x0.snd m F)/\(x0.fst=x0.fst/\x0.fst<n/\x0.snd<=m)/\∀(au:Nat×Nat),au.fst=x0.fst/\au.fst<n
 /\ au.snd<=m->bif decide ((↑au.snd:Int)<↑m) then (0<=(↑au.fst:Int)/\(↑au.fst:Int)<(↑(bh n (au.fst+1)).length:Int)) /\
 (↑au.fst:Int).toNat<(bh n (au.fst+1)).length/\G au.fst au.snd ((((bh n (au.fst+1)).getD (↑au.fst:Int).toNat 0)<(fi
 au.fst au.snd m F).length/\0<=(↑au.snd:Int)/\(↑au.snd:Int)<(↑((fi au.fst au.snd m F).getD (((bh n (au.fst+1)).getD (↑au.fst :
 Int).toNat 0)) []).length:Int))/\((((bh n (au.fst+1)).getD (↑au.fst:Int).toNat 0))<(fi au.fst au.snd m F).length/\(↑au.snd :
 Int).toNat<((fi au.fst au.snd m F).getD ((((bh n (au.fst+1)).getD (↑au.fst:Int).toNat 0))) []).length)/\((-9223372036854775808:Int) <=
 (↑au.snd:Int)+1/\(↑au.snd:Int)+1<=(9223372036854775807:Int))/\∃(x':Nat×Nat),(((↑m:Int)=↑m/\W ((↑au.fst:Int) =
 (↑x'.fst:Int)/\(↑n:Int)=↑n/\(↑au.fst:Int)=↑x'.fst/\(↑m:Int)=↑m/\(↑au.snd:Int)+1=↑x'.snd))/\bh n
 (au.fst+1)=bh n (x'.fst+1)/\(fi au.fst au.snd m F).set ((bh n (au.fst+1)).getD (↑au.fst:Int).toNat 0) (((fi
 au.fst au.snd m F).getD ((bh n (au.fst+1)).getD (↑au.fst:Int).toNat 0) []).set (↑au.snd:Int).toNat (F au.fst au.snd))=fi x'.fst x'.snd
 m F)/\(x'.fst=x0.fst/\x'.fst<n/\x'.snd<=m)/\m-x'.snd<m-au.snd) else ((-9223372036854775808:Int)<=(↑au.fst:Int)+1/\(↑au.fst:Int)+(1 :
 Int)<=(9223372036854775807:Int))/\∃(x':Nat),(((↑m:Int)=↑m/\W ((↑n:Int)=↑n/\(↑au.fst:Int)+1=↑x'))/\bh n
 (au.fst+1)=bh n x'/\(fi au.fst au.snd m F)=bD x' m F)/\x'<=n/\n-x'<n-x) else bh n x=bh n n/\bD x m F=bD n m F)
theorem kI {n m:Nat} {W:Prop->Prop} {G:Nat->Nat->Prop->Prop} {F:Nat->Nat->Rat} (hn:n<=aB) (hm:m<=aB) (hW:∀R,R->W R) (hG:∀i j,i<n->j<m->∀R,R->G i j R):pv n m W G F:=by
 unfold pv;unfold aB at hn hm;have tn:∀k:Nat,(k:Int).toNat=k:=fun k=>rfl
 simp only [tn,yq];refine ⟨by omega,fun _=>⟨0,⟨⟨by trivial,hW _ (by simp)⟩,x8 n,by trivial⟩,ia _,fun i hi=>aH (fun h=>?_) fun h=>?_⟩⟩
 ·have cw:i<n:=by omega
  rw [K3,As cw,Gj cw,afH,aA8];simp only [aqK,Ar,mX];refine ⟨by omega,by omega,by omega,by omega,by omega,fun _=>⟨by omega,(i,0),⟨⟨by trivial,hW _ (by simp)⟩,by trivial,by trivial⟩,⟨by trivial,cw,ia _⟩,fun ⟨a,b⟩ ⟨kv,ha,hb⟩=>aH (fun h2=>?_) fun h2=>?_⟩⟩
  ·dsimp only at kv ha hb h2 ⊢;rw [Gj ha,aA8];simp only [aqK,Ar,mX];refine ⟨by omega,by omega,hG a b ha (by omega) _ ⟨by omega,by omega,by omega,(a,b+1),⟨⟨by trivial,hW _ (by simp)⟩,by trivial,?_⟩,⟨kv,ha,by show b+1<=m;omega⟩,by show m-(b+1)<m-b;omega⟩⟩;have:=Rs (i:=a) (j:=b) (m:=m) (F:=F) (by omega);rw [aA8] at this;exact this
  ·dsimp only at kv ha hb h2 ⊢;subst kv;refine ⟨by omega,a+1,⟨⟨by trivial,hW _ (by simp)⟩,by trivial,?_⟩,by omega,by omega⟩;rw [show b=m by omega];exact K4
 ·rw [show i=n by omega];exact ⟨rfl,rfl⟩
noncomputable def Gq:List az:=NI::[]
theorem Gt:bd Gq:=⟨KY,trivial⟩
def ffTurn:CF
 | [.k (.int .i64) ((n:Nat):Int),.k (.int .i64) ((m:Nat):Int),.fn 38 (.cons (.pk (.list (.list .q)) M) .nil)]=>some (some (n<=aB/\m<=aB/\∀i j,i<n->j<m->j<M.length/\i<(M.getD j []).length),.own 0 0 1,[.bc 36 45 .q (bh n n) (bD n m fun i j=>el M j i)])
 | _=>none
def NK:az:=⟨37,false,ffTurn⟩
def Rt (n m:Nat) (M:LM):bk:=⟨fun key_=>match key_ with | 9=>9 | _=>0,fun key_=>match key_ with
 | 3=>some (⟨Nat,fun i=>[(1,.k (.int .i64) ((m:Nat):Int)),(2,.fn 38 (.cons (.pk (.list (.list .q)) M) .nil)),(7,.own 11 0 1),(13,.k (.int .i64) ((n:Nat):Int)),(14,.k (.int .i64) ((i:Nat):Int))],
 fun i=>[(11,.bc 36 45 .q (bh n i) (bD i m fun i j=>el M j i))],fun _ i=>i<=n,fun i=>n-i⟩)
 | 7=>some (⟨Nat×Nat,fun p=>[(1,.k (.int .i64) ((m:Nat):Int)),(2,.fn 38 (.cons (.pk (.list (.list .q)) M) .nil)),(7,.own 11 0 1),(8,.k (.int .i64) ((p.1:Nat):Int)),(13,.k (.int .i64) ((n:Nat):Int)),(14,.k (.int .i64) ((p.1:Nat):Int)),(26,.k (.int .i64) ((m:Nat):Int)),(27,.k (.int .i64) ((p.2:Nat):Int))],
 fun p=>[(11,.bc 36 45 .q (bh n (p.1+1)) (fi p.1 p.2 m fun i j=>el M j i))],fun q p=>p.1=q.1/\p.1<n/\p.2<=m,fun p=>m-p.2⟩) | _=>none,nR,nU⟩
def NL (n m:Nat) (M:LM):Prop:=pv n m (fun R=>M=M/\R) (fun i j R=>(j<M.length/\i<(M.getD j []).length)/\R) (fun i j=>el M j i)
theorem K7 (n m:Nat) (M:LM):awp (cfg Gq []) (Rt n m M) Tryz.f37.ntmps (Tryz.f37.body.getD .skip) (auW Tryz.f37.results.toList (.own 0 0 1) 11 (.bc 36 45 .q (bh n n) (bD n m fun i j=>el M j i))) ⟨aqq 0 [.k (.int .i64) ((n:Nat):Int),.k (.int .i64) ((m:Nat):Int),.fn 38 (.cons (.pk (.list (.list .q)) M) .nil)],[]⟩=NL n m M:=by kernel_rfl
theorem K8 (n m:Nat) (M:LM) (hg:n<=aB/\m<=aB/\∀i j,i<n->j<m->j<M.length/\i<(M.getD j []).length):NL n m M:=by exact kI hg.1 hg.2.1 (fun R h=>⟨rfl,h⟩) fun i j hi hj R h=>⟨hg.2.2 i j hi hj,h⟩
theorem K9:aoH (cfg []) NK:=oY Gt bp Tryz.func37 (by kernel_rfl) (by kernel_rfl) rfl fun args g r hn hc hg hf=>by
 replace hc:ffTurn args=some (g,r,hn):=hc;unfold ffTurn at hc;split at hc
 ·obtain ⟨rfl,rfl,rfl⟩:=aN hc;have hv:=K8 _ _ _ hg
  cases aY (K7 _ _ _) hv;exact ⟨by kernel_rfl,_,11,_,rfl,rfl,rfl,by assumption⟩
 ·cases hc
noncomputable def NO:List az:=Xh::[]
theorem Lc:bd NO:=⟨Rr,trivial⟩
def ffMul:CF
 | [.k (.int .i64) ((n:Nat):Int),.k (.int .i64) ((m:Nat):Int),.fn 76 (.cons (.pk (.list (.list .q)) M) (.cons (.pk (.list (.list .q)) N) .nil))]=>some (some (n<=aB/\m<=aB/\∀i j,i<n->j<m->i<M.length/\(M.getD i []).length<=N.length/\(∀k,k<N.length->j<(N.getD k []).length)/\fK M N),.own 0 0 1,[.bc 36 45 .q (bh n n) (bD n m fun i j=>sumN (fun k=>el M i k*el N k j) (M.getD i []).length)])
 | _=>none
def Xp:az:=⟨37,false,ffMul⟩
def Xq (n m:Nat) (M  N:LM):bk:=⟨fun key_=>match key_ with | 9=>9 | _=>0,fun key_=>match key_ with
 | 3=>some (⟨Nat,fun i=>[(1,.k (.int .i64) ((m:Nat):Int)),(2,.fn 76 (.cons (.pk (.list (.list .q)) M) (.cons (.pk (.list (.list .q)) N) .nil))),(7,.own 11 0 1),(13,.k (.int .i64) ((n:Nat):Int)),(14,.k (.int .i64) ((i:Nat):Int))],
 fun i=>[(11,.bc 36 45 .q (bh n i) (bD i m fun i j=>sumN (fun k=>el M i k*el N k j) (M.getD i []).length))],fun _ i=>i<=n,fun i=>n-i⟩)
 | 7=>some (⟨Nat×Nat,fun p=>[(1,.k (.int .i64) ((m:Nat):Int)),(2,.fn 76 (.cons (.pk (.list (.list .q)) M) (.cons (.pk (.list (.list .q)) N) .nil))),(7,.own 11 0 1),(8,.k (.int .i64) ((p.1:Nat):Int)),(13,.k (.int .i64) ((n:Nat):Int)),(14,.k (.int .i64) ((p.1:Nat):Int)),(26,.k (.int .i64) ((m:Nat):Int)),(27,.k (.int .i64) ((p.2:Nat):Int))],
 fun p=>[(11,.bc 36 45 .q (bh n (p.1+1)) (fi p.1 p.2 m fun i j=>sumN (fun k=>el M i k*el N k j) (M.getD i []).length))],fun q p=>p.1=q.1/\p.1<n/\p.2<=m,fun p=>m-p.2⟩) | _=>none,nR,nU⟩
def Xr (n m:Nat) (M  N:LM):Prop:=pv n m (fun R=>(M=M/\N=N)/\R) (fun i j R=>(i<M.length/\(M.getD i []).length<=N.length/\(∀k,k<N.length->j<(N.getD k []).length)/\fK M N)/\R) (fun i j=>sumN (fun k=>el M i k*el N k j) (M.getD i []).length)
theorem RC (n m:Nat) (M  N:LM):awp (cfg NO []) (Xq n m M N) Tryz.f37.ntmps (Tryz.f37.body.getD .skip) (auW Tryz.f37.results.toList (.own 0 0 1) 11 (.bc 36 45 .q (bh n n) (bD n m fun i j=>sumN (fun k=>el M i k*el N k j) (M.getD i []).length))) ⟨aqq 0 [.k (.int .i64) ((n:Nat):Int),.k (.int .i64) ((m:Nat):Int),.fn 76 (.cons (.pk (.list (.list .q)) M) (.cons (.pk (.list (.list .q)) N) .nil))],[]⟩=Xr n m M N:=by kernel_rfl
theorem RD (n m:Nat) (M  N:LM) (hg:n<=aB/\m<=aB/\∀i j,i<n->j<m->i<M.length/\(M.getD i []).length<=N.length/\(∀k,k<N.length->j<(N.getD k []).length)/\fK M N):Xr n m M N:=by exact kI hg.1 hg.2.1 (fun R h=>⟨⟨rfl,rfl⟩,h⟩) fun i j hi hj R h=>⟨hg.2.2 i j hi hj,h⟩
theorem RE:aoH (cfg []) Xp:=oY Lc bp Tryz.func37 (by kernel_rfl) (by kernel_rfl) rfl fun args g r hn hc hg hf=>by
 replace hc:ffMul args=some (g,r,hn):=hc;unfold ffMul at hc;split at hc
 ·obtain ⟨rfl,rfl,rfl⟩:=aN hc;have hv:=RD _ _ _ _ hg
  cases aY (RC _ _ _ _) hv;exact ⟨by kernel_rfl,_,11,_,rfl,rfl,rfl,by assumption⟩
 ·cases hc
noncomputable def NP:List az:=Xf::[]
theorem Ld:bd NP:=⟨Ro,trivial⟩
def ffEye:CF
 | [.k (.int .i64) ((n:Nat):Int),.k (.int .i64) ((m:Nat):Int),.fn 75 .nil]=>some (some (n<=aB/\m<=aB),.own 0 0 1,[.bc 36 45 .q (bh n n) (bD n m fun i j=>if i=j then 1 else 0)])
 | _=>none
def adp:az:=⟨37,false,ffEye⟩
def Xs (n m:Nat):bk:=⟨fun key_=>match key_ with | 9=>9 | _=>0,fun key_=>match key_ with
 | 3=>some (⟨Nat,fun i=>[(1,.k (.int .i64) ((m:Nat):Int)),(2,.fn 75 .nil),(7,.own 11 0 1),(13,.k (.int .i64) ((n:Nat):Int)),(14,.k (.int .i64) ((i:Nat):Int))],
 fun i=>[(11,.bc 36 45 .q (bh n i) (bD i m fun i j=>if i=j then 1 else 0))],fun _ i=>i<=n,fun i=>n-i⟩)
 | 7=>some (⟨Nat×Nat,fun p=>[(1,.k (.int .i64) ((m:Nat):Int)),(2,.fn 75 .nil),(7,.own 11 0 1),(8,.k (.int .i64) ((p.1:Nat):Int)),(13,.k (.int .i64) ((n:Nat):Int)),(14,.k (.int .i64) ((p.1:Nat):Int)),(26,.k (.int .i64) ((m:Nat):Int)),(27,.k (.int .i64) ((p.2:Nat):Int))],
 fun p=>[(11,.bc 36 45 .q (bh n (p.1+1)) (fi p.1 p.2 m fun i j=>if i=j then 1 else 0))],fun q p=>p.1=q.1/\p.1<n/\p.2<=m,fun p=>m-p.2⟩) | _=>none,nR,nU⟩
def Xt (n m:Nat):Prop:=pv n m (fun R=>R) (fun i j R=>R) (fun i j=>if i=j then (1:Rat) else 0)
theorem RF (n m:Nat):awp (cfg NP []) (Xs n m) Tryz.f37.ntmps (Tryz.f37.body.getD .skip) (auW Tryz.f37.results.toList (.own 0 0 1) 11 (.bc 36 45 .q (bh n n) (bD n m fun i j=>if i=j then 1 else 0))) ⟨aqq 0 [.k (.int .i64) ((n:Nat):Int),.k (.int .i64) ((m:Nat):Int),.fn 75 .nil],[]⟩=Xt n m:=by kernel_rfl
theorem RG (n m:Nat) (hg:n<=aB/\m<=aB):Xt n m:=by exact kI hg.1 hg.2 (fun R h=>h) fun i j hi hj R h=>h
theorem RH:aoH (cfg []) adp:=oY Ld bp Tryz.func37 (by kernel_rfl) (by kernel_rfl) rfl fun args g r hn hc hg hf=>by
 replace hc:ffEye args=some (g,r,hn):=hc;unfold ffEye at hc;split at hc
 ·obtain ⟨rfl,rfl,rfl⟩:=aN hc;have hv:=RG _ _ hg
  cases aY (RF _ _) hv;exact ⟨by kernel_rfl,_,11,_,rfl,rfl,rfl,by assumption⟩
 ·cases hc
def mulN (f g:Nat->Nat->Rat) (i c:Nat):Nat->Rat
 | 0=>0
 | t+1=>mulN f g i c t+f i t*g t c
def dw (f g:Nat->Nat->Rat) (l:Nat):Nat->Nat->Rat:=fun i c=>mulN f g i c l
def iP:Nat->Nat->Rat:=fun i c=>if i=c then 1 else 0
theorem tL (f g:Nat->Nat->Rat) (i c:Nat):∀t,sumN (fun k=>f i k*g k c) t=mulN f g i c t
 | 0=>rfl
 | t+1=>by rw [sumN,mulN,tL f g i c t]
def c6 (n:Nat) (f g:Nat->Nat->Rat):Prop:=∀i c,i<n->c<n->f i c=g i c
end Go.Proofs.YtdgmgfaphpkocaaGreatDoor.AM
